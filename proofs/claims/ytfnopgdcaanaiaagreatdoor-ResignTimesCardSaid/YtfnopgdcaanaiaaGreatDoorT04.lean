/- Parts of the proof. No condition. -/
import Derived.Lib.ConvBytes
import Derived.Laws.AppendOwnNone
import Derived.Test.YtfnopgdcaanaiaaGreatDoorRows
import Derived.ProofKit
import Derived.OpenShut
import Derived.Deep.DeepHandedRow
import Derived.Lib.LaidTab
import Derived.Shelf.SlicesE.Clone
import Derived.Shelf.SlSortCmp.WholeK
import Derived.Test.YtfnopgdcaanaiaaGreatDoorProg
import Derived.Test.YtfnopgdcaanaiaaGreatDoorT01
set_option linter.all false
set_option maxRecDepth 100000
set_option maxHeartbeats 8000000
namespace Go.Proofs.YtfnopgdcaanaiaaGreatDoor
open Go.Proofs.Tryz
namespace Np
def inS(l:List Span)(t:Int):Prop:=∃ s∈l,s.frm<=t/\t<s.til
structure ApartS(l:List Span):Prop where
 full:∀ s∈l,s.frm<s.til
 apart:l.Pairwise λa b=>a.til<b.frm
theorem gJ(t:Int):¬ inS [] t:=λ⟨_,h,_⟩=>by cases h
theorem gi{a:Span}{l:List Span}{t:Int} : inS (a::l) t↔(a.frm<=t/\t<a.til)\/inS l t:=by
 constructor
 ·rintro⟨s,hs,h⟩;rcases List.mem_cons.1 hs with e | hs
  ·subst e;exact .inl h
  ·exact .inr ⟨s,hs,h⟩
 ·rintro (h | ⟨s,hs,h⟩)
  ·exact⟨a,by simp,h⟩
  ·exact⟨s,mQ _ hs,h⟩
theorem rk{a b:List Span}{t:Int} : inS (a++b) t↔inS a t\/inS b t:=by
 constructor
 ·rintro⟨s,hs,h⟩;rcases List.mem_append.1 hs with hs | hs
  ·exact .inl ⟨s,hs,h⟩
  ·exact .inr ⟨s,hs,h⟩
 ·rintro (⟨s,hs,h⟩ | ⟨s,hs,h⟩)
  ·exact⟨s,List.mem_append_left _ hs,h⟩
  ·exact⟨s,List.mem_append_right _ hs,h⟩
theorem ApartS.tail{a:Span}{l:List Span}(h:ApartS (a::l)):ApartS l:=⟨λs hs=>h.full s (mQ _ hs),(List.pairwise_cons.1 h.apart).2⟩
theorem ApartS.nil:ApartS []:=⟨λ_ h=>(by cases h),List.Pairwise.nil⟩
theorem ApartS.above{a:Span}{l:List Span}(h:ApartS (a::l)){t:Int}(ht:inS l t):a.til<t:=by
 obtain⟨s,hs,h1,_⟩:=ht
 have:=(List.pairwise_cons.1 h.apart).1 s hs
 omega
theorem ApartS.from{a:Span}{l:List Span}(h:ApartS (a::l)){t:Int}(ht:inS (a::l) t):a.frm<=t:=by
 rcases gi.1 ht with h1 | h1
 ·exact h1.1
 ·have h2:=h.above h1;have h3:=h.full a (by simp);omega
theorem C3:∀ (l m:List Span),ApartS l->ApartS m->(∀ t,inS l t↔inS m t)->l=m
 | [],[],_,_,_=>rfl
 | [],b::m,_,hm,h=>absurd ((h b.frm).2 ⟨b,by simp,Int.le_refl _,hm.full b (by simp)⟩) (gJ _)
 | a::l,[],hl,_,h=>absurd ((h a.frm).1 ⟨a,by simp,Int.le_refl _,hl.full a (by simp)⟩) (gJ _)
 | a::l,b::m,hl,hm,h=>by
   have fa:=hl.full a (by simp);have fb:=hm.full b (by simp);have e1:a.frm=b.frm:=by
    have h1:=hm.from ((h a.frm).1 ⟨a,by simp,Int.le_refl _,fa⟩);have h2:=hl.from ((h b.frm).2 ⟨b,by simp,Int.le_refl _,fb⟩);omega
   have e2:a.til=b.til:=by
    rcases Int.lt_trichotomy a.til b.til with aa | he | aa
    ·exfalso
     have:=(h a.til).2 (gi.2 (.inl ⟨by omega,aa⟩))
     rcases gi.1 this with h1 | h1
     ·omega
     ·have:=hl.above h1;omega
    ·exact he
    ·exfalso
     have:=(h b.til).1 (gi.2 (.inl ⟨by omega,aa⟩))
     rcases gi.1 this with h1 | h1
     ·omega
     ·have:=hm.above h1;omega
   have e:a=b:=by obtain⟨_,_⟩:=a;obtain⟨_,_⟩:=b;simp only at e1 e2;rw[e1,e2]
   subst e;rw[C3 l m hl.tail hm.tail (λt=>by
    constructor
    ·intro ht;have h1:=hl.above ht;rcases gi.1 ((h t).1 (gi.2 (.inr ht))) with h2 | h2
     ·omega
     ·exact h2
    ·intro ht;have h1:=hm.above ht;rcases gi.1 ((h t).2 (gi.2 (.inr ht))) with h2 | h2
     ·omega
     ·exact h2)]
def eC(out:List Span)(s:Span):List Span:=
 match out.getLast? with
 | none=>[s]
 | some p=>if s.frm<=p.til then out.dropLast ++ [⟨p.frm,max p.til s.til⟩] else out ++ [s]
theorem L5(s:Span):eC [] s = [s]:=rfl
theorem Fi(o:List Span)(p s:Span):eC (o ++ [p]) s=if s.frm<=p.til then o ++ [⟨p.frm,max p.til s.til⟩] else o ++ [p] ++ [s]:=by simp[eC]
theorem XV{out:List Span}{s:Span}(ho:ApartS out)(hs:s.frm<s.til)(hf:∀ p∈out,p.frm<=s.frm):ApartS (eC out s)/\(∀ t,inS (eC out s) t↔inS out t\/(s.frm<=t/\t<s.til))/\∀ p∈eC out s,p.frm<=s.frm:=by
 rcases List.eq_nil_or_concat out with rfl | ⟨o,p,rfl⟩
 ·rw[L5];refine⟨⟨λx hx=>?_,by simp⟩,λt=>?_,λx hx=>?_⟩
  ·rw[List.mem_singleton] at hx;subst hx;exact hs
  ·rw[gi];constructor
   ·rintro (h | h);exact .inr h;exact absurd h (gJ t)
   ·rintro (h | h);exact absurd h (gJ t);exact .inl h
  ·rw[List.mem_singleton] at hx;subst hx;exact Int.le_refl _
 ·rw[List.concat_eq_append] at ho hf |-;rw[Fi];have hp:=hf p (by simp);have AA:=ho.full p (by simp);obtain⟨a1,a2,a3⟩:=List.pairwise_append.1 ho.apart;split
  ·rename_i fJ;have JN:=Int.le_max_left p.til s.til;have qV:=Int.le_max_right p.til s.til;have Z6:max p.til s.til=p.til\/max p.til s.til=s.til:=by omega
   refine⟨⟨λx hx=>?_,?_⟩,λt=>?_,λx hx=>?_⟩
   ·rcases List.mem_append.1 hx with hx | hx
    ·exact ho.full x (List.mem_append_left _ hx)
    ·rw[List.mem_singleton] at hx;subst hx;dsimp only;omega
   ·refine List.pairwise_append.2 ⟨a1,by simp,λx hx y hy=>?_⟩;rw[List.mem_singleton] at hy;subst hy;exact a3 x hx p (by simp)
   ·rw[rk,rk,gi,gi];dsimp only;constructor
    ·rintro (h | h | h)
     ·exact .inl (.inl h)
     ·rcases Int.lt_or_le t p.til with h2 | h2
      ·exact .inl (.inr (.inl ⟨h.1,h2⟩))
      ·exact .inr ⟨by omega,by omega⟩
     ·exact absurd h (gJ t)
    ·rintro ((h | h | h) | h)
     ·exact .inl h
     ·exact .inr (.inl ⟨h.1,by omega⟩)
     ·exact absurd h (gJ t)
     ·exact .inr (.inl ⟨by omega,by omega⟩)
   ·rcases List.mem_append.1 hx with hx | hx
    ·exact hf x (List.mem_append_left _ hx)
    ·rw[List.mem_singleton] at hx;subst hx;exact hp
  ·rename_i fJ;refine⟨⟨λx hx=>?_,?_⟩,λt=>?_,λx hx=>?_⟩
   ·rcases List.mem_append.1 hx with hx | hx
    ·exact ho.full x hx
    ·rw[List.mem_singleton] at hx;subst hx;exact hs
   ·refine List.pairwise_append.2 ⟨ho.apart,by simp,λx hx y hy=>?_⟩;rw[List.mem_singleton] at hy;subst hy;rcases List.mem_append.1 hx with hx | hx
    ·have:=a3 x hx p (by simp);omega
    ·rw[List.mem_singleton] at hx;subst hx;omega
   ·rw[rk,gi];constructor
    ·rintro (h | h | h)
     ·exact .inl h
     ·exact .inr h
     ·exact absurd h (gJ t)
    ·rintro (h | h)
     ·exact .inl h
     ·exact .inr (.inl h)
   ·rcases List.mem_append.1 hx with hx | hx
    ·exact hf x hx
    ·rw[List.mem_singleton] at hx;subst hx;exact Int.le_refl _
theorem L4:∀ (l out:List Span),ApartS out->(∀ s∈l,s.frm<s.til)->l.Pairwise (λa b=>a.frm<=b.frm)->(∀ p∈out,∀ s∈l,p.frm<=s.frm)->ApartS (l.foldl eC out)/\∀ t,inS (l.foldl eC out) t↔inS out t\/inS l t
 | [],out,ho,_,_,_=>⟨ho,λt=>⟨.inl,λh=>h.elim id (λh=>absurd h (gJ t))⟩⟩
 | s::l,out,ho,hf,hs,hp=>by
   obtain⟨h1,h2,h3⟩:=XV ho (hf s (by simp)) (λp En=>hp p En s (by simp));obtain⟨q1,q2⟩:=List.pairwise_cons.1 hs;obtain⟨h4,h5⟩:=L4 l (eC out s) h1 (λx hx=>hf x (mQ _ hx)) q2 (λp En x hx=>by
    have:=h3 p En
    have:=q1 x hx
    omega)
   refine⟨h4,λt=>?_⟩;rw[List.foldl_cons,h5,h2,gi,or_assoc]
end Np
section
open Go.RowKit
theorem Mj{F:Fence}{n:Nat}{P:Program}(w:World){ops:Array Oper}{rest:List Oper}{o:Oper}{a:Act}{Q:Exit->Act->World->Prop}
 (hg:o.guard=none) (s x:Operand) (t:TypeId) (fz:o.op=Op.call { callee:=Callee.builtin Builtin.append,args:=#[s,x],argTypes:=#[t,t] })
 (base:Nat) (e:TypeId) (i:TypeInfo) (z:Value) (size bytes:Nat) (h1:P.underlying t=some (.slice e)) (h2:P.info? e=some i) (h3:i.zero=some z) (h4:i.size=size) (h5:i.bytes=bytes) (h6:z.cells.size=size) (h7:0<size)
 (v:Value) (k:Nat) (xs:List Value) (hs:a.eval s=v) (hown:w.ownsRow base e size v k xs) (ad:Addr) (m c:Nat) (news:List Value) (hx:a.eval x = .slice (some ad) m c) (hn:news.length=m * size)
 (hc:∀ j u,news[j]?=some u->w.cell? (ad.add j)=some u) (Rw:∀ u∈news,u.oneCell'=true) (b1:k+m<=maxLen) (b2:(k+m) * bytes<=140737488355328) (b3:base<=w.heap.size)
 (hK:∀ v' w',w'.ownsRow base e size v' (k+m) (xs++news)->w.grownBy w' v.ownBlock->(v'.ownBlock=v.ownBlock\/v'.ownBlock=some w.heap.size)->wpListIn F n P ops Q rest (a.put o.dst v') w') :
 wpListIn F n P ops Q (o::rest) a w:=by
 obtain⟨v',w',bj,r1,r2,_,r4⟩:=run_append_own_at (P:=P) w base t o.type e i z size bytes h1 h2 h3 h4 h5 h6 h7 v k xs hown ad m c news hn hc Rw b1 b2 b3;refine wpListIn_plain hg λK hK'=>⟨by simp[Oper.about,fz,resolve,Target.leads,Sem.run_pure],?_⟩;rw[Oper.semAt_plain F _ _ (by rw[fz];intro c hc';cases hc')];simp[execOp,fz,resolve,invoke,builtin,hs,hx,bj,Result.andThen];exact hK' _ _ (hK v' w' r1 r2 r4)
theorem KV{B:Nat}{S:Nat->Prop}{W W':World}{base:Nat}{e:TypeId}{size:Nat}{v:Value}{k:Nat}{xs:List Value}(h:W.ownsRow base e size v k xs)(hs:ItStep B S W W')(hS:∀ g,v.ownBlock=some g->S g):W'.ownsRow base e size v k xs:=by
 refine⟨h.1,?_⟩;rcases h.2 with hn | ⟨g,cap,cur,rfl,hb,hg,rest⟩
 ·exact .inl hn
 ·exact .inr ⟨g,cap,cur,rfl,hb,(hs.keep g (eQ.1 hg).1 (.inr (hS g rfl))).trans hg,rest⟩
theorem bY{W W':World}{base:Nat}{e:TypeId}{size:Nat}{v:Value}{k:Nat}{xs:List Value}(h:W.ownsRow base e size v k xs)(hs:∀ g,v.ownBlock=some g->W'.heap[g]?=W.heap[g]?):W'.ownsRow base e size v k xs:=by
 refine⟨h.1,?_⟩;rcases h.2 with hn | ⟨g,cap,cur,rfl,hb,hg,rest⟩
 ·exact .inl hn
 ·exact .inr ⟨g,cap,cur,rfl,hb,(hs g rfl).trans hg,rest⟩
theorem Bu{α:Type}{R:agJ α}{sz:Nat}{W:World}{base:Nat}{e:TypeId}{v:Value}{xs:List α}(enc:α->List Value)(hlen:∀ x∈xs,(enc x).length=sz)
 (h:W.ownsRow base e sz v xs.length (xs.flatMap enc)) (hl:xs.length<=140737488355328) (hR:∀ x∈xs,R W W.heap.size (enc x) x):SlR R sz W W.heap.size v xs:=by
 have Em:∀ (l:List α) (i:Nat) (x:α) (j:Nat) (u:Value),(∀ y∈l,(enc y).length=sz)->l[i]?=some x->(enc x)[j]?=some u->(l.flatMap enc)[i * sz+j]?=some u:=by
  intro l
  induction l with
  | nil=>intro i x j u _ hi;simp at hi
  | cons y l ih=>
   intro i x j u fJ hi hj;rw[List.flatMap_cons];have hy:(enc y).length=sz:=fJ y (by simp)
   cases i with
   | zero=>
    simp at hi;subst hi;rw[List.getElem?_append_left (by have:=(cQ.1 hj).1;omega)];simpa using hj
   | succ i=>
    rw[oQ (by rw[hy,Nat.succ_mul];omega),hy]
    have:=ih i x j u (λy hy=>fJ y (by simp[hy])) (by simpa using hi) hj
    rw[show (i+1) * sz+j - sz=i * sz+j by rw[Nat.succ_mul];omega];exact this
 rcases h.2 with ⟨rfl,h0⟩ | ⟨g,cap,cur,rfl,hb,hg,ik,_,_,Ew⟩
 ·have:xs = []:=rQ h0
  subst this;exact⟨none,0,rfl,by simp,by simp,λi x hx=>by simp at hx⟩
 ·refine⟨_,cap,rfl,ik,hl,λi x hx=>⟨g,0,enc x,rfl,(eQ.1 hg).1,hlen x (gQ hx),λj u hj=>?_,hR x (gQ hx)⟩⟩;have h1:=Em xs i x j u hlen hx hj;have h2:=h.cells (g:=g) rfl _ _ h1;have jd:(⟨g,0,none⟩:Addr).add (i * sz+j)=⟨g,0+i * sz+j,none⟩:=by unfold Addr.add;split <;> simp_all
  rw[jd] at h2;exact h2
def eK(_:World)(_:Nat)(e:List Value)(x:Int):Prop:=e = [.int .i64 x]
theorem g9:cj eK:=λ_ _ _ _ _ h _=>h
theorem l4:cB eK:=λ_ _ _ _ _ h _=>h
theorem ES{α:Type}(f:α->Value)(l:List α):l.map f=l.flatMap λx=>[f x]:=by induction l <;> simp_all
theorem jr{W:World}{base:Nat}{e:TypeId}{size:Nat}{v:Value}{k:Nat}{xs:List Value}(h:W.ownsRow base e size v k xs):∃ A cap,v = .slice A k cap:=by
 rcases h.2 with ⟨rfl,rfl⟩ | ⟨g,cap,_,rfl,_⟩
 ·exact⟨none,0,rfl⟩
 ·exact⟨_,cap,rfl⟩
theorem tw{W:World}{base:Nat}{e:TypeId}{size:Nat}{v:Value}{k:Nat}{xs:List Value}(h:W.ownsRow base e size v k xs):∀ g,v.ownBlock=some g->base<=g/\g<W.heap.size:=h.lt
theorem PN{W w1:World}{lb:Nat}{t e:TypeId}{size:Nat}{v v':Value}{k m:Nat}{xs ys:List Value}{tmp:Obj}{S F:Nat->Prop}
 (hS:∀ i,S i↔F i\/i=lb\/v.ownBlock=some i) (hF:∀ i,F i->i<lb) (hv:Boxed W lb t v) (hrow:W.ownsRow (lb+1) e size v k xs)
 (im:w1.ownsRow (lb+1) e size v' m ys) (kN:(W.alloc tmp).grownBy w1 v.ownBlock) (hat:v'.ownBlock=v.ownBlock\/v'.ownBlock=some (W.alloc tmp).heap.size) :
 Boxed w1 lb t v/\Boxed (w1.setCell ⟨lb,0,none⟩ v') lb t v'/\(w1.setCell ⟨lb,0,none⟩ v').ownsRow (lb+1) e size v' m ys/\RdStep S W (w1.setCell ⟨lb,0,none⟩ v')/\
  (∀ i,(F i\/i=lb\/v'.ownBlock=some i)->S i\/W.heap.size<=i)/\(∀ i,(F i\/i=lb\/v'.ownBlock=some i)->i<(w1.setCell ⟨lb,0,none⟩ v').heap.size)/\
  (∀ i,i<lb->(w1.setCell ⟨lb,0,none⟩ v').heap[i]?=W.heap[i]?):=by
 have aa:=hv.lt;have hb:=tw hrow;have hb':=tw im;have hne:some lb≠v.ownBlock:=λe=>by have:=(hb lb e.symm).1;omega
 have wK:Boxed w1 lb t v:=(hv.alloc tmp).kept kN hne;have ag:W.heap.size+1<=w1.heap.size:=by have:=kN.size;simpa using this
 have qZ:(w1.setCell ⟨lb,0,none⟩ v').heap.size=w1.heap.size:=by simp[World.setCell]
 refine⟨wK,wK.set v',bY im (λg hg=>wQ _ _ _ _ (λe=>by have:=(hb' g hg).1;simp at e;omega)),?_,λi hi=>?_,λi hi=>?_,λi hi=>?_⟩
 ·refine RdStep.setCell (RdStep.grown ((RdStep.refl S W).alloc tmp) kN (λk ek=>.inl ((hS k).2 (.inr (.inr ek))))) (.inl ((hS _).2 (.inr (.inl rfl)))) _
 ·rcases hi with hi | hi | hi
  ·exact .inl ((hS _).2 (.inl hi))
  ·exact .inl ((hS _).2 (.inr (.inl hi)))
  ·rcases hat with h | h
   ·rw[h] at hi;exact .inl ((hS _).2 (.inr (.inr hi)))
   ·rw[h] at hi;simp at hi;right;omega
 ·rw[qZ];rcases hi with hi | hi | hi
  ·have:=hF i hi;omega
  ·omega
  ·exact (hb' i hi).2
 ·rw[wQ _ _ _ _ (by simp;omega),kN.block i (by simp;omega) (λe=>by have:=(hb i e.symm).1;omega),Below.heap_alloc _ _ _ (by omega)]
structure Turned(b:Nat)(w w':World):Prop where
 os:w'.os=w.os
 tape:w'.tape=w.tape
 output:w'.output=w.output
 size:w'.heap.size=w.heap.size
 block:∀ i,i≠b->w'.heap[i]?=w.heap[i]?
theorem Turned.refl(b:Nat)(w:World):Turned b w w:=⟨rfl,rfl,rfl,rfl,λ_ _=>rfl⟩
theorem Turned.trans{b:Nat}{u v w:World}(h:Turned b u v)(k:Turned b v w):Turned b u w:=⟨k.os.trans h.os,k.tape.trans h.tape,k.output.trans h.output,k.size.trans h.size,λi hi=>(k.block i hi).trans (h.block i hi)⟩
theorem Turned.cell{b:Nat}{w w':World}(h:Turned b w w'){p:Addr}(hp:p.block≠b):w'.cell? p=w.cell? p:=by
 unfold World.cell?;rw[h.block _ hp]
theorem XR(w:World)(b:Nat)(v:Value):Turned b w (w.setCell ⟨b,0,none⟩ v):=
 ⟨rfl,rfl,rfl,by simp[World.setCell],λi hi=>by simp[World.setCell,Array.getElem?_modify,Ne.symm hi]⟩
theorem Turned.grown{b:Nat}{w w':World}(h:Turned b w w'):w.grownBy w' (some b):=⟨h.os,h.tape,h.output,by rw[h.size];exact bQ _,λi _ hne=>h.block i (λe=>hne (by rw[e]))⟩
theorem Turned.below{b n:Nat}{w w':World}(h:Turned b w w')(hn:n<=b):Below n w w':=⟨h.os,h.tape,h.output,by rw[h.size];exact bQ _,λi hi=>h.block i (by omega)⟩
theorem PR(w:World)(t:TypeId)(z:ByteArray){n:Nat}(hn:n<=w.heap.size):Below n w (Lib.bytesWorld w t z):=by
 refine⟨?_,?_,?_,by rw[Lib.bytesWorld_size];omega,λi hi=>Lib.bytesWorld_at_old _ _ _ _ (by omega)⟩ <;> (unfold Lib.bytesWorld World.freeze;rfl)
def aO{α:Type}(R:agJ α)(sz:Nat)(e:TypeId)(base B:Nat)(w:World)(v:Value)(xs:List α):Prop:=
 ∃ rows:List (List Value),rows.length=xs.length/\w.ownsRow base e sz v xs.length rows.flatten/\∀ (i:Nat) (r:List Value) (x:α),rows[i]?=some r->xs[i]?=some x->r.length=sz/\R w B r x
theorem uL{sz:Nat} : ∀ (rows:List (List Value)) (i j:Nat) (r:List Value) (u:Value),(∀ q∈rows,q.length=sz)->rows[i]?=some r->r[j]?=some u->rows.flatten[i * sz+j]?=some u:=by
 intro rows
 induction rows with
 | nil=>intro i j r u _ h;simp at h
 | cons q rows ih=>
  intro i j r u hq h hj;have hl:q.length=sz:=hq q (by simp);rw[List.flatten_cons]
  cases i with
  | zero=>
   simp at h;subst h;rw[List.getElem?_append_left (by have:=(cQ.1 hj).1;omega)];simpa using hj
  | succ i=>
   rw[oQ (by rw[hl,Nat.succ_mul];omega),hl,show (i+1) * sz+j - sz=i * sz+j by rw[Nat.succ_mul];omega];exact ih i j r u (λq hq'=>hq q (by simp[hq'])) (by simpa using h) hj
theorem Dk{sz:Nat} : ∀ (rows:List (List Value)),(∀ q∈rows,q.length=sz)->rows.flatten.length=rows.length * sz:=by
 intro rows
 induction rows with
 | nil=>intro _;simp
 | cons q rs ih=>
  intro h;rw[List.flatten_cons,List.length_append,ih (λx hx=>h x (by simp[hx])),h q (by simp),List.length_cons,Nat.succ_mul];omega
theorem aO.rows_len{α:Type}{R:agJ α}{sz B:Nat}{w:World}{xs:List α}{rows:List (List Value)}(hl:rows.length=xs.length)(h:∀ (i:Nat) (r:List Value) (x:α),rows[i]?=some r->xs[i]?=some x->r.length=sz/\R w B r x):∀ q∈rows,q.length=sz:=λq hq=>by
 obtain⟨i,hi,rfl⟩:=nQ.1 hq;exact (h i _ _ (aQ hi) (aQ (by omega))).1
theorem aO.slr{α:Type}{R:agJ α}{sz:Nat}{e:TypeId}{base B:Nat}{w:World}{v:Value}{xs:List α}(h:aO R sz e base B w v xs)(hm:cB R)(hB:B<=w.heap.size)(hl:xs.length<=140737488355328):SlR R sz w w.heap.size v xs:=by
 obtain⟨rows,h1,h2,h3⟩:=h;rcases h2.2 with ⟨rfl,h0⟩ | ⟨g,cap,cur,rfl,hb,hg,ik,_⟩
 ·have:xs = []:=rQ h0
  subst this;exact⟨none,0,rfl,by simp,by simp,λi x hx=>by simp at hx⟩
 ·refine⟨_,cap,rfl,ik,hl,λi x hx=>?_⟩;have hi:=(cQ.1 hx).1;have hr:=aQ (show i<rows.length by omega);obtain⟨h4,h5⟩:=h3 i _ x hr hx;refine⟨g,0,rows[i],rfl,(eQ.1 hg).1,h4,λj u hj=>?_,hm _ _ _ _ _ h5 hB⟩;have h6:=h2.cells (g:=g) rfl _ _ (uL rows i j _ u (aO.rows_len h1 h3) hr hj);have jd:(⟨g,0,none⟩:Addr).add (i * sz+j)=⟨g,0+i * sz+j,none⟩:=by unfold Addr.add;split <;> simp_all
  rw[jd] at h6;exact h6
theorem aO.keep{α:Type}{R:agJ α}{sz:Nat}{e:TypeId}{base B:Nat}{w w':World}{v:Value}{xs:List α}(h:aO R sz e base B w v xs)(hk:cj R)(hb:Below w.heap.size w w')(hB:B<=w.heap.size):aO R sz e base B w' v xs:=by
 obtain⟨rows,h1,h2,h3⟩:=h;refine⟨rows,h1,bY h2 (λg hg=>hb.block g (h2.lt g hg).2),λi r x hr hx=>?_⟩;obtain⟨h4,h5⟩:=h3 i r x hr hx;exact⟨h4,hk _ _ _ _ _ h5 (hb.mono hB)⟩
theorem aO.empty{α:Type}{R:agJ α}{sz:Nat}{e:TypeId}{base B:Nat}(w:World)(hb:base<=w.heap.size):aO (α:=α) R sz e base B (w.alloc (.cells #[] e)) (.slice (some ⟨w.heap.size,0,none⟩) 0 0) []:=
 ⟨[],rfl,⟨by simp,.inr ⟨w.heap.size,0,#[],rfl,hb,heap_alloc_new _ _,bQ _,by simp[maxLen],by simp,by simp⟩⟩,λi r x hr=>by simp at hr⟩
theorem aO.nil{α:Type}{R:agJ α}{sz:Nat}{e:TypeId}{base B:Nat}(w:World):aO (α:=α) R sz e base B w (.slice none 0 0) []:=⟨[],rfl,⟨by simp,.inl ⟨rfl,rfl⟩⟩,λi r x hr=>by simp at hr⟩
theorem LL{α:Type}{R:agJ α}{sz:Nat}{w:World}{B:Nat}{A:Option Addr}{n c:Nat}{ys:List α}(h:SlR R sz w B (.slice A n c) ys)(ag:0<sz) :
 ∃ rows:List (List Value),rows.length=ys.length/\(∀ (i:Nat) (r:List Value) (x:α),rows[i]?=some r->ys[i]?=some x->r.length=sz/\R w B r x)/\(ys≠[]->∃ b o,A=some ⟨b,o,none⟩/\b<B/\∀ j u,rows.flatten[j]?=some u->w.cell? ((⟨b,o,none⟩:Addr).add j)=some u):=by
 obtain⟨A',c',hv,hc,hl,he⟩:=h
 cases hv
 have ba:∀ k,k<=ys.length->∃ rows:List (List Value),rows.length=k/\(∀ (i:Nat) (r:List Value) (x:α),rows[i]?=some r->ys[i]?=some x->r.length=sz/\R w B r x/\∃ b o,A=some ⟨b,o,none⟩/\b<B/\fC w b (o+i * sz) r):=by
  intro k
  induction k with
  | zero=>exact λ_=>⟨[],rfl,λi r x hr=>by simp at hr⟩
  | succ k ih=>
   intro hk;obtain⟨rows,h1,h2⟩:=ih (by omega);obtain⟨b,o,e,hA,hb,aL,hce,hr⟩:=he k _ (aQ (by omega:k<ys.length));refine⟨rows ++ [e],by simp[h1],λi r x hr' hx=>?_⟩;rcases Nat.lt_or_ge i rows.length with aa | pi
   ·rw[List.getElem?_append_left aa] at hr';exact h2 i r x hr' hx
   ·rw[oQ pi] at hr';have h0:i - rows.length=0:=by have:=(cQ.1 hr').1;simp at this;omega
    rw[h0] at hr';simp at hr';subst hr';obtain rfl:i=k:=by omega
    rw[aQ (by omega)] at hx;simp only[Option.some.injEq] at hx;subst hx;exact⟨aL,hr,b,o,hA,hb,hce⟩
 obtain⟨rows,h1,h2⟩:=ba ys.length (bQ _);refine⟨rows,h1,λi r x hr hx=>⟨(h2 i r x hr hx).1,(h2 i r x hr hx).2.1⟩,λhne=>?_⟩;have h0:0<ys.length:=Nat.pos_of_ne_zero (λe=>hne (rQ e));obtain⟨_,_,b,o,hA,hb,_⟩:=h2 0 _ _ (aQ (by omega)) (aQ h0);refine⟨b,o,hA,hb,λj u hj=>?_⟩;have hlen:∀ q∈rows,q.length=sz:=λq hq=>by
  obtain⟨i,hi,rfl⟩:=nQ.1 hq;exact (h2 i _ _ (aQ hi) (aQ (by omega))).1
 have sG:=Dk rows hlen;have lN:=(cQ.1 hj).1;have hi:j / sz<rows.length:=by rw[sG] at lN;exact Nat.div_lt_of_lt_mul (by rw[Nat.mul_comm];exact lN)
 obtain⟨h5,_,b',o',hA',_,hce⟩:=h2 (j / sz) _ _ (aQ hi) (aQ (by omega));rw[hA] at hA';simp only[Option.some.injEq,Addr.mk.injEq,and_true] at hA';obtain⟨rfl,rfl⟩:=hA';have At:j % sz<rows[j / sz].length:=by rw[h5];exact Nat.mod_lt _ ag
 have h7:=uL rows (j / sz) (j % sz) _ _ hlen (aQ hi) (aQ At);rw[Nat.div_add_mod' j sz,hj] at h7;simp only[Option.some.injEq] at h7;have h8:=hce (j % sz) _ (aQ At);rw[<-h7] at h8;have jd:(⟨b,o,none⟩:Addr).add j=⟨b,o+j,none⟩:=by unfold Addr.add;split <;> simp_all
 rw[jd,<-h8];congr 2
 have:=Nat.div_add_mod' j sz
 omega
section
variable {P:Program}
theorem Lv{w:World}(base:Nat)(t ty e:TypeId)(i:TypeInfo)(size:Nat)(ht:P.underlying t=some (.slice e))(hi:P.info? e=some i)(v:Value)(n c:Nat)(xs:List Value)(hown:w.ownsRow base e size v n xs) :
 (Builtin.append_ #[t,t] ty #[v,.slice none 0 c]).run P w = .ok v w:=by
 rcases hown.2 with ⟨rfl,rfl⟩ | ⟨g,cap,cur,rfl,_,_,ik,_⟩
 ·simp[Builtin.append_,run_underlying ht,sizeOf,typeInfo,hi,Builtin.lenOf,Builtin.firstCells]
 ·simp[Builtin.append_,run_underlying ht,sizeOf,typeInfo,hi,Builtin.lenOf,Builtin.firstCells,ik,storeCells]
theorem Fu{α:Type}{R:agJ α}{sz:Nat}(w:World){ops:Array Oper}{rest:List Oper}{o:Oper}{a:Act}{Q:Exit->Act->World->Prop}(fh:o.guard=none)(s x:Operand)(t:TypeId)
 (ho:o.op = .call { callee:=.builtin .append,args:=#[s,x],argTypes:=#[t,t] })
 (base B:Nat) (e:TypeId) (i:TypeInfo) (z:Value) (bytes:Nat) (ht:P.underlying t=some (.slice e)) (hi:P.info? e=some i) (hz:i.zero=some z) (fN:i.size=sz) (dY:i.bytes=bytes) (jp:z.cells.size=sz) (ag:0<sz)
 (v:Value) (xs:List α) (hs:a.eval s=v) (hown:aO R sz e base B w v xs) (A:Option Addr) (c Bs:Nat) (ys:List α) (hx:a.eval x = .slice A ys.length c) (d9:SlR R sz w Bs (.slice A ys.length c) ys)
 (qX:∀ r y,R w Bs r y->∀ u∈r,u.oneCell'=true) (fu:xs.length+ys.length<=maxLen) (ii:(xs.length+ys.length) * bytes<=140737488355328) (bL:base<=w.heap.size) (RB:Bs<=B) (IN:B<=base) (hk:cj R) (hm:cB R)
 (h:∀ v' w',aO R sz e base B w' v' (xs++ys)->Below base w w'->w.grownBy w' v.ownBlock->wpList P ops Q rest (a.put o.dst v') w'):wpList P ops Q (o::rest) a w:=by
 have nP:∀ (w':World) (v':Value) (rows rows':List (List Value)),Below base w w'->rows.length=xs.length->(∀ (i:Nat) (r:List Value) (x:α),rows[i]?=some r->xs[i]?=some x->r.length=sz/\R w B r x)->rows'.length=ys.length->
  (∀ (i:Nat) (r:List Value) (x:α),rows'[i]?=some r->ys[i]?=some x->r.length=sz/\R w Bs r x)->w'.ownsRow base e sz v' (xs.length+ys.length) (rows.flatten++rows'.flatten)->aO R sz e base B w' v' (xs++ys):=by
  intro w' v' rows rows' hb h1 h2 h3 h4 h5;refine⟨rows++rows',by simp[h1,h3],?_,λj r y hr hy=>?_⟩
  ·rw[List.length_append,List.flatten_append];exact h5
  ·rcases Nat.lt_or_ge j rows.length with aa | pi
   ·rw[List.getElem?_append_left aa] at hr;rw[List.getElem?_append_left (by omega)] at hy;obtain⟨h6,h7⟩:=h2 j r y hr hy;exact⟨h6,hk _ _ _ _ _ h7 (hb.mono IN)⟩
   ·rw[oQ pi] at hr;rw[oQ (by omega),<-h1] at hy;obtain⟨h6,h7⟩:=h4 _ r y hr hy;exact⟨h6,hk _ _ _ _ _ (hm _ _ _ _ _ h7 RB) (hb.mono IN)⟩
 obtain⟨rows,h1,h2,h3⟩:=hown;obtain⟨rows',h4,h5,h6⟩:=LL d9 ag;by_cases hy:ys = []
 ·subst hy;have jj:rows' = []:=rQ (by simpa using h4);subst jj
  cases A with
  | none=>
   have bj:=Lv (P:=P) base t o.type e i sz ht hi v xs.length c rows.flatten h2;refine wpList_plain fh λK hK=>?_;unfold Oper.wp;have hx':a.eval x = .slice none 0 c:=hx;simp[execOp,ho,resolve,invoke,builtin,hs,hx',bj,Result.andThen];refine hK _ _ (h v w (nP w v rows [] (vQ _ _) h1 h3 rfl (λj r y hr=>by simp at hr) (by simpa using h2)) (vQ _ _) ⟨rfl,rfl,rfl,bQ _,λ_ _ _=>rfl⟩)
  | some ad=>
   refine wpList_append_own_at w fh s x t ho base e i z sz bytes ht hi hz fN dY jp ag v xs.length rows.flatten hs h2 ad 0 c [] hx (by simp) (λj u hj=>by simp at hj) (λu hu=>by cases hu) (by simpa using fu) (by simpa using ii) bL ?_;intro v' w' ho' hg _ _;have hb:Below base w w':=(vQ _ _).grown hg bL (λk hk=>(h2.lt k hk).1);exact h v' w' (nP w' v' rows [] hb h1 h3 rfl (λj r y hr=>by simp at hr) (by simpa using ho')) hb hg
 ·obtain⟨b,o',rfl,du,hcell⟩:=h6 hy;have hl:=aO.rows_len h4 h5;refine wpList_append_own_at w fh s x t ho base e i z sz bytes ht hi hz fN dY jp ag v xs.length rows.flatten hs h2 ⟨b,o',none⟩ ys.length c rows'.flatten hx (by rw[Dk rows' hl,h4]) hcell (λu hu=>?_) fu ii bL ?_
  ·obtain⟨r,hr,Ez⟩:=List.mem_flatten.1 hu;obtain⟨j,hj,rfl⟩:=nQ.1 hr;exact qX _ _ (h5 j _ _ (aQ hj) (aQ (by omega))).2 u Ez
  ·intro v' w' ho' hg _ _;have hb:Below base w w':=(vQ _ _).grown hg bL (λk hk=>(h2.lt k hk).1);exact h v' w' (nP w' v' rows rows' hb h1 h3 h4 h5 ho') hb hg
end
end
section
open Go.ChangeShapes Go.WideShapes Go.ChangeAt Go.RowKit
theorem It:prog.globalNamed "nameplan/record.rules" = some 0:=by kernel_rfl
theorem Ra:(prog.globals[0]?).map (·.type)=some 284:=by kernel_rfl
theorem P4:prog.cellsOf 283=8:=by kernel_rfl
theorem uF:prog.cellsOf 3=1:=by kernel_rfl
theorem Da:prog.cellsOf 4=1:=by kernel_rfl
def kG:Value->DataW Unit
 | .int k n=>.lit (.int k n)
 | .bool b=>.lit (.bool b)
 | _=>.nil
theorem UP:(Rows.laid_nameplan_record_rules:DataW Unit) = .agg ((List.range 9).map λ(k:Nat)=>.agg ((go (Np.bN k)).toList.map kG)):=by
 rfl
section
variable {w:World} {base:Nat} {spare:Nat->Bool} {held:Bool} {fuel:Nat} {cs:List Value} {p:List MemPlace}
theorem xm{n:Int}(h:DataW.trod (λ_=>()) prog w base spare held fuel 3 cs=some (kG (.int .i64 n),p)):cs = [.int .i64 n]:=by
 obtain⟨m,rfl,hx,_⟩:=DataW.trod_int underlying3 h;simp only[kG,Prod.mk.injEq,DataW.lit.injEq,Lit.int.injEq] at hx;rw[hx.1.2]
theorem EV{b:Bool}(h:DataW.trod (λ_=>()) prog w base spare held fuel 4 cs=some (kG (.bool b),p)):cs = [.bool b]:=by
 obtain⟨m,rfl,hx⟩:=DataW.trod_bool underlying4 h;simp only[kG,Prod.mk.injEq,DataW.lit.injEq,Lit.bool.injEq] at hx;rw[hx.1]
theorem oW{cs:List Value}{o:Nat}{v:Value}(h:(cs.drop o).take 1 = [v]):cs[o]?=some v:=by
 have:=Qd (·[0]?) h
 simpa [List.getElem?_take,List.getElem?_drop] using this
theorem Ls{r:Np.Rule}(h:DataW.trod (λ_=>()) prog w base spare held fuel 283 cs=some (.agg ((go r).toList.map kG),p)):∀ (j:Nat) (v:Value),(go r).toList[j]?=some v->cs[j]?=some v:=by
 obtain⟨ys,n,_,hx,_,hlen,hf⟩:=DataW.trod_struct underlying283 h;simp only[Prod.mk.injEq,DataW.agg.injEq] at hx;have hy:∀ (j:Nat) (v:Value),(go r).toList[j]?=some v->∃ q,ys[j]?=some (kG v,q):=λj v hj=>by
  have h1:(ys.map (·.1))[j]?=some (kG v):=by rw[<-hx.1];simp[hj]
  simp only[List.getElem?_map,Option.map_eq_some_iff] at h1;obtain⟨y,AQ,lV⟩:=h1;exact⟨y.2,by rw[AQ,<-lV]⟩
 intro j v hj;obtain⟨q,hq⟩:=hy j v hj
 match j,hj,hq with
 | 0,hj,hq=>simp[go] at hj;subst hj;have:DataW.trod (λ_=>()) prog w base spare held n 3 ((cs.drop 0).take (prog.cellsOf 3))=ys[0]?:=hf 0 _ rfl;rw[hq,uF] at this;exact oW (xm this)
 | 1,hj,hq=>simp[go] at hj;subst hj;have:DataW.trod (λ_=>()) prog w base spare held n 3 ((cs.drop 1).take (prog.cellsOf 3))=ys[1]?:=hf 1 _ rfl;rw[hq,uF] at this;exact oW (xm this)
 | 2,hj,hq=>simp[go] at hj;subst hj;have:DataW.trod (λ_=>()) prog w base spare held n 3 ((cs.drop 2).take (prog.cellsOf 3))=ys[2]?:=hf 2 _ rfl;rw[hq,uF] at this;exact oW (xm this)
 | 3,hj,hq=>simp[go] at hj;subst hj;have:DataW.trod (λ_=>()) prog w base spare held n 3 ((cs.drop 3).take (prog.cellsOf 3))=ys[3]?:=hf 3 _ rfl;rw[hq,uF] at this;exact oW (xm this)
 | 4,hj,hq=>simp[go] at hj;subst hj;have:DataW.trod (λ_=>()) prog w base spare held n 3 ((cs.drop 4).take (prog.cellsOf 3))=ys[4]?:=hf 4 _ rfl;rw[hq,uF] at this;exact oW (xm this)
 | 5,hj,hq=>simp[go] at hj;subst hj;have:DataW.trod (λ_=>()) prog w base spare held n 4 ((cs.drop 5).take (prog.cellsOf 4))=ys[5]?:=hf 5 _ rfl;rw[hq,Da] at this;exact oW (EV this)
 | 6,hj,hq=>simp[go] at hj;subst hj;have:DataW.trod (λ_=>()) prog w base spare held n 4 ((cs.drop 6).take (prog.cellsOf 4))=ys[6]?:=hf 6 _ rfl;rw[hq,Da] at this;exact oW (EV this)
 | 7,hj,hq=>simp[go] at hj;subst hj;have:DataW.trod (λ_=>()) prog w base spare held n 4 ((cs.drop 7).take (prog.cellsOf 4))=ys[7]?:=hf 7 _ rfl;rw[hq,Da] at this;exact oW (EV this)
 | j+8,hj,_=>simp[go] at hj
end
theorem WR{W:World}{rest:List (String×DataW Unit)}(h:laidMet prog (("nameplan/record.rules",Rows.laid_nameplan_record_rules)::rest) W):dS W W.heap.size:=by
 obtain⟨ps,⟨g',t',cs,fuel,p,q,hg',ht',TH,hd,_,_⟩,_⟩:=h;obtain rfl:=Option.some.inj (It.symm.trans hg');obtain rfl:=Option.some.inj (Ra.symm.trans ht');rw[UP] at hd;obtain⟨xs,m,_,hx,_,hlen,hf⟩:=DataW.trod_array underlying284 hd;simp only[Prod.mk.injEq,DataW.agg.injEq] at hx;have hcell:∀ (i:Nat) (v:Value),cs[i]?=some v->W.cell? ⟨0,i,none⟩=some v:=λi v hi=>by rw[World.var?_cell It TH i];exact hi
 refine⟨?_,λk hk j v hj=>?_⟩
 ·have h0:=hf 0 (by omega);obtain⟨x0,cR⟩:∃ x,xs[0]?=some x:=⟨_,aQ (by omega)⟩;rw[cR] at h0;have h1:x0.1 = .agg ((go (Np.bN (0:Nat))).toList.map kG):=by
   have:(xs.map (·.1))[0]?=some (.agg ((go (Np.bN (0:Nat))).toList.map kG)):=by rw[<-hx.1];rfl
   rw[List.getElem?_map,cR] at this;simpa using this
  rw[show x0=(x0.1,x0.2) from rfl,h1] at h0;have h2:=Ls h0 0 _ rfl;simp only[Nat.zero_mul,List.drop_zero,List.getElem?_take] at h2;split at h2
  ·exact World.block_lt_of_cell? _ _ (hcell 0 _ (by simpa using h2))
  ·cases h2
 ·have h0:=hf k hk;obtain⟨x0,cR⟩:∃ x,xs[k]?=some x:=⟨_,aQ (by omega)⟩;rw[cR] at h0;have h1:x0.1 = .agg ((go (Np.bN k)).toList.map kG):=by
   have:(xs.map (·.1))[k]?=some (.agg ((go (Np.bN k)).toList.map kG)):=by rw[<-hx.1,List.getElem?_map,List.getElem?_range hk];rfl
   rw[List.getElem?_map,cR] at this;simpa using this
  rw[show x0=(x0.1,x0.2) from rfl,h1] at h0;have h2:=Ls h0 j v hj;rw[P4,List.getElem?_take] at h2;split at h2
  ·rw[List.getElem?_drop] at h2;exact hcell _ _ (by simpa using h2)
  ·cases h2
end
end Go.Proofs.YtfnopgdcaanaiaaGreatDoor
namespace Go.Proofs
open YtfnopgdcaanaiaaGreatDoor
open Go.Shelf
def Tryz.sortSpan_ren:Go.Shelf.Ren:=⟨fun | 6=>121 | 15=>186 | 14=>205 | 28=>259 | 29=>260 | 20=>273 | 21=>274 | 22=>275 | 23=>276 | 24=>277 | 25=>278 | 26=>279 | 27=>280 | 46=>335 | 47=>322 | 48=>323 | 49=>336 | 50=>337 | 57=>359 | n=>n,fun | 22=>55 | 24=>110 | 25=>189 | 3=>3 | 39=>249 | 0=>0 | 53=>92 | 55=>48 | 4=>4 | 46=>305 | 45=>304 | 50=>214 | 5=>5 | 9=>9 | 66=>351 | 70=>355 | 76=>376 | 77=>377 | n=>n,fun | n=>n⟩
theorem Tryz.sortSpan:Go.Proofs.SlLaysF0.n6 Tryz.prog Tryz.sortSpan_ren:={
 mixed:=by kernel_rfl
 f6:=⟨Tryz.f121.name,by decide,Tryz.func121.trans (adZ)⟩
 f14:=⟨Tryz.f205.name,by decide,Tryz.func205.trans (adZ)⟩
 f15:=Tryz.func186.trans (adZ)
 f20:=⟨Tryz.f273.name,by decide,Tryz.func273.trans (adZ)⟩
 f21:=⟨Tryz.f274.name,by decide,Tryz.func274.trans (adZ)⟩
 f22:=⟨Tryz.f275.name,by decide,Tryz.func275.trans (adZ)⟩
 f23:=⟨Tryz.f276.name,by decide,Tryz.func276.trans (adZ)⟩
 f24:=⟨Tryz.f277.name,by decide,Tryz.func277.trans (adZ)⟩
 f25:=⟨Tryz.f278.name,by decide,Tryz.func278.trans (adZ)⟩
 f26:=⟨Tryz.f279.name,by decide,Tryz.func279.trans (adZ)⟩
 f27:=⟨Tryz.f280.name,by decide,Tryz.func280.trans (adZ)⟩
 f28:=Tryz.func259.trans (adZ)
 f29:=Tryz.func260.trans (adZ)
 f46:=⟨Tryz.f335.name,by decide,Tryz.func335.trans (adZ)⟩
 f47:=Tryz.func322.trans (adZ)
 f48:=Tryz.func323.trans (adZ)
 f49:=⟨Tryz.f336.name,by decide,Tryz.func336.trans (adZ)⟩
 f50:=⟨Tryz.f337.name,by decide,Tryz.func337.trans (adZ)⟩
 f57:=⟨Tryz.f359.name,by decide,Tryz.func359.trans (adZ)⟩
 t0:=Tryz.underlying0
 a0:=Tryz.isAgg0
 z0:=Tryz.sizeOf0
 v0:=Tryz.zeroValue0
 t3:=Tryz.underlying3
 a3:=Tryz.isAgg3
 z3:=Tryz.sizeOf3
 v3:=Tryz.zeroValue3
 t4:=Tryz.underlying4
 a4:=Tryz.isAgg4
 z4:=Tryz.sizeOf4
 v4:=Tryz.zeroValue4
 t5:=Tryz.underlying5
 a5:=Tryz.isAgg5
 z5:=Tryz.sizeOf5
 v5:=Tryz.zeroValue5
 t9:=Tryz.underlying9
 a9:=Tryz.isAgg9
 z9:=Tryz.sizeOf9
 v9:=Tryz.zeroValue9
 t22:=Tryz.underlying55
 a22:=Tryz.isAgg55
 z22:=Tryz.sizeOf55
 v22:=Tryz.zeroValue55
 t25:=Tryz.underlying189
 a25:=Tryz.isAgg189
 z25:=Tryz.sizeOf189
 v25:=Tryz.zeroValue189
 t39:=Tryz.underlying249
 a39:=Tryz.isAgg249
 z39:=Tryz.sizeOf249
 v39:=Tryz.zeroValue249
 t45:=Tryz.underlying304
 a45:=Tryz.isAgg304
 z45:=Tryz.sizeOf304
 v45:=Tryz.zeroValue304
 t46:=Tryz.underlying305
 a46:=Tryz.isAgg305
 z46:=Tryz.sizeOf305
 v46:=Tryz.zeroValue305
 t50:=Tryz.underlying214
 a50:=Tryz.isAgg214
 z50:=Tryz.sizeOf214
 v50:=Tryz.zeroValue214
 t53:=Tryz.underlying92
 a53:=Tryz.isAgg92
 z53:=Tryz.sizeOf92
 v53:=Tryz.zeroValue92
 t55:=Tryz.underlying48
 a55:=Tryz.isAgg48
 z55:=Tryz.sizeOf48
 v55:=Tryz.zeroValue48
 t66:=Tryz.underlying351
 a66:=Tryz.isAgg351
 z66:=Tryz.sizeOf351
 v66:=Tryz.zeroValue351
 t70:=Tryz.underlying355
 a70:=Tryz.isAgg355
 z70:=Tryz.sizeOf355
 v70:=Tryz.zeroValue355
 t76:=Tryz.underlying376
 a76:=Tryz.isAgg376
 z76:=Tryz.sizeOf376
 v76:=Tryz.zeroValue376
 t77:=Tryz.underlying377
 a77:=Tryz.isAgg377
 z77:=Tryz.sizeOf377
 v77:=Tryz.zeroValue377 }
end Go.Proofs
namespace Go.Proofs.YtfnopgdcaanaiaaGreatDoor
open Go.Proofs.Tryz
section
open Go.RowKit
section
variable {P:Program} {ops:Array Oper} {md:Region.Mode} {C:World->Prop}
end
section
variable {P:Program} {ops:Array Oper} {md:Region.Mode} {C:World->Prop} {Q:Exit->Act->World->Prop}
theorem Bi(a:Act)(d:Nat)(v:Value)(h:d<a.tmps.size):(a.put (some d) v).eval (.tmp d)=v:=by
 simp[Act.put,Act.eval,h]
theorem ru(a:Act)(d j:Nat)(v:Value)(h:d≠j):(a.put (some d) v).eval (.tmp j)=a.eval (.tmp j):=by
 simp[Act.put,Act.eval,h,Array.getD_eq_getD_getElem?]
structure kq(ops:Array Oper)(D:List Nat)(dst:Nat->Nat)(val:Nat->Value)(base:List (Nat×Value))(m:Nat)(ds:List Deferred)(f:Nat)(listed:Array Bool)(a:Act):Prop where
 defs:a.defers=ds
 size:listed.size=ops.size
 left:listed.toList.count false=f
 not:∀ i,i<ops.size->i∉D->listed.getD i true=false
 val:∀ i∈D,listed.getD i false=true->a.eval (.tmp (dst i))=val i
 base:∀ q∈base,a.eval (.tmp q.1)=q.2
 tmps:a.tmps.size=m
theorem kq.step{ds:List Deferred}{D:List Nat}{dst:Nat->Nat}{val:Nat->Value}{base:List (Nat×Value)}{m f:Nat}{listed:Array Bool}{a:Act}{i:Nat}{o:Oper}(hg:kq ops D dst val base m ds (f+1) listed a)(hi:i∈D)(hr:listed.getD i true=false)(ho:ops[i]?=some o)(hd:o.dst=some (dst i))(aa:dst i<m)
 (qQ:∀ j∈D,j≠i->dst i≠dst j) (hb:∀ q∈base,dst i≠q.1) (hy:YieldsIn P ops C o (val i) a):qOp P ops C i (kq ops D dst val base m ds f (listed.setIfInBounds i true)) a:=by
 refine hy.qOp ho ?_;rw[hd];have SM:i<ops.size:=(eQ.1 ho).1;have eG:i<listed.size:=by rw[hg.size];exact SM
 have ac:listed[i]=false:=by simpa [Array.getD,eG] using hr
 refine⟨by simp[Act.put,hg.defs],by simp[hg.size],?_,?_,?_,?_,?_⟩
 ·have h1:=hg.left;rw[Array.toList_setIfInBounds,List.count_set (by simpa using eG)];simp[ac,h1]
 ·intro j hj mB;have hne:i≠j:=λe=>mB (e ▸ hi)
  have:=hg.not j hj mB
  simpa [Array.getD,hg.size,hj,Array.getElem_setIfInBounds,hne] using this
 ·intro j hj hl;by_cases hne:i=j
  ·subst hne;exact Bi a _ _ (by rw[hg.tmps];exact aa)
  ·rw[ru _ _ _ _ (qQ j hj (λe=>hne e.symm))];refine hg.val j hj ?_;by_cases lN:j<listed.size
   ·simpa [Array.getD,lN,Array.getElem_setIfInBounds,hne] using hl
   ·simp[Array.getD,lN] at hl
 ·intro q hq;rw[ru _ _ _ _ (hb q hq)];exact hg.base q hq
 ·simp[Act.put,hg.tmps]
theorem kq.none{ds:List Deferred}{D:List Nat}{dst:Nat->Nat}{val:Nat->Value}{base:List (Nat×Value)}{m:Nat}{listed:Array Bool}{a:Act}{p:Nat}(hp:p<ops.size)(kT:p∉D):¬ kq ops D dst val base m ds 0 listed a:=λhg=>by
 have h1:=hg.not p hp kT;have eG:p<listed.size:=by rw[hg.size];exact hp
 have ac:listed[p]=false:=by simpa [Array.getD,eG] using h1
 have h2:=hg.left;rw[List.count_eq_zero] at h2;exact h2 (by rw[<-ac];simp)
theorem kq.start{D:List Nat}{dst:Nat->Nat}{val:Nat->Value}{base:List (Nat×Value)}{m:Nat}{a:Act}(hb:∀ q∈base,a.eval (.tmp q.1)=q.2)(hm:a.tmps.size=m):kq ops D dst val base m a.defers ops.size (Array.replicate ops.size false) a:=
 ⟨rfl,by simp,by simp,λi hi _=>by simp[Array.getD,hi],λi _ h=>by simp[Array.getD] at h,hb,hm⟩
def Fo(ops:Array Oper)(D:List Nat)(p:Nat):Bool:=(List.range ops.size).all λi=>D.contains i||i == p||match ops[i]? with
 | some o=>o.after.any λe=>Region.binds .any e&&!D.contains e.on&&decide (e.on<ops.size)
 | none=>true
theorem Yp{D:List Nat}{p:Nat}(h:Fo ops D p=true):∀ (i:Nat) (o:Oper),ops[i]?=some o->i∉D->i≠p->∃ e∈o.after,Region.binds .any e=true/\e.on∉D/\e.on<ops.size:=by
 intro i o ho hD hp;unfold Fo at h;rw[List.all_eq_true] at h;have h1:=h i (by rw[List.mem_range];exact (eQ.1 ho).1);rw[ho] at h1;simp only[Bool.or_eq_true,List.contains_iff_mem,hD,beq_iff_eq,hp,false_or] at h1;rw[Array.any_eq_true'] at h1;obtain⟨e,he,h2⟩:=h1;simp only[Bool.and_eq_true,Bool.not_eq_true',Qa] at h2;have h3:e.on∉D:=λhm=>by
  have:=h2.1.2
  rw[List.contains_iff_mem.2 hm] at this
  cases this
 exact⟨e,he,h2.1.1,h3,h2.2⟩
end
section
variable {P:Program} {ops:Array Oper} {Q:Exit->Act->World->Prop}
structure Held(ops:Array Oper)(D A:List Nat)(dst:Nat->Nat)(val:Nat->Value)(base:List (Nat×Value))(m:Nat)(ds:List Deferred)(f:Nat)(listed:Array Bool)(a:Act):Prop where
 good:kq ops D dst val base m ds f listed a
 done:∀ i∈A,listed.getD i false=true
 clo:∀ j o,ops[j]?=some o->listed.getD j false=true->∀ e∈o.after,Region.binds .any e=true->listed.getD e.on false=true
theorem AX{listed:Array Bool}{i j:Nat}(h:(listed.setIfInBounds i true).getD j false=true):j=i\/listed.getD j false=true:=by
 by_cases ct:i=j
 ·exact .inl ct.symm
 ·rw[getD_set_ne false ct] at h;exact .inr h
theorem tp{listed:Array Bool}{i j:Nat}(h:listed.getD j false=true):(listed.setIfInBounds i true).getD j false=true:=by
 by_cases ct:i=j
 ·subst ct;have hl:i<listed.size:=by
   by_cases hl:i<listed.size
   ·exact hl
   ·simp[Array.getD,hl] at h
  simp[Array.getD,hl]
 ·rw[getD_set_ne false ct];exact h
theorem Hu{listed:Array Bool}{i:Nat}(hr:i∈Region.ready .any ops listed)(h:∀ j o,ops[j]?=some o->listed.getD j false=true->∀ e∈o.after,Region.binds .any e=true->listed.getD e.on false=true) :
 ∀ j o,ops[j]?=some o->(listed.setIfInBounds i true).getD j false=true->∀ e∈o.after,Region.binds .any e=true->(listed.setIfInBounds i true).getD e.on false=true:=λj o ho hj e he hb=>by
 refine tp ?_;rcases AX hj with rfl | hj
 ·obtain⟨_,o',ho',ba⟩:=mem_ready.1 hr;rw[ho] at ho';cases ho';exact ba e he hb
 ·exact h j o ho hj e he hb
theorem Held.act{D A D':List Nat}{dst:Nat->Nat}{val val':Nat->Value}{base:List (Nat×Value)}{m p f:Nat}{ds:List Deferred}{listed:Array Bool}{a:Act}{v:Value}(h:Held ops D A dst val base m ds (f+1) listed a)(hp:p∈Region.ready .any ops listed)
 (kT:p∉D) (hD:∀ i,i∉D'->i∉D/\i≠p) (hval:∀ i∈D,val' i=val i) (EB:val' p=v) (aa:dst p<m) (qQ:∀ j∈D,dst p≠dst j) (hb:∀ q∈base,dst p≠q.1) (eS:p<ops.size) :
 Held ops D' (p::A) dst val' base m ds f (listed.setIfInBounds p true) (a.put (some (dst p)) v):=by
 have hg:=h.good;have fk:=(mem_ready.1 hp).1;have eG:p<listed.size:=by rw[hg.size];exact eS
 have ac:listed[p]=false:=by simpa [Array.getD,eG] using fk
 refine⟨⟨by simp[Act.put,hg.defs],by simp[hg.size],?_,?_,?_,?_,by simp[Act.put,hg.tmps]⟩,?_,Hu hp h.clo⟩
 ·have h1:=hg.left;rw[Array.toList_setIfInBounds,List.count_set (by simpa using eG)];simp[ac,h1]
 ·intro j hj mB;obtain⟨h1,h2⟩:=hD j mB
  have:=hg.not j hj h1
  rw[getD_set_ne true (λe=>h2 e.symm)];exact this
 ·intro j hj hl;rcases AX hl with rfl | hl
  ·rw[EB];exact Bi a _ _ (by rw[hg.tmps];exact aa)
  ·have mB:j∈D:=Decidable.byContradiction λmB=>by
    by_cases vG:j<ops.size
    ·have h1:=hg.not j vG mB;have h3:j<listed.size:=by rw[hg.size];exact vG
     simp[Array.getD,h3] at h1 hl;rw[h1] at hl;cases hl
    ·have h3:¬ j<listed.size:=by rw[hg.size];exact vG
     simp[Array.getD,h3] at hl
   rw[ru _ _ _ _ (qQ j mB),hval j mB];exact hg.val j mB hl
 ·intro q hq;rw[ru _ _ _ _ (hb q hq)];exact hg.base q hq
 ·intro i hi;rcases List.mem_cons.1 hi with rfl | hi
  ·simp[Array.getD,eG]
  ·exact tp (h.done i hi)
def AT(ops:Array Oper)(p:Nat):Bool:=(List.range ops.size).all λi=>i == p||(List.range ops.size).any λj=>decide (i<j)&&match ops[j]? with
 | some o=>o.after.any λe=>Region.binds .any e&&e.on == i
 | none=>false
theorem Held.all{D A:List Nat}{dst:Nat->Nat}{val:Nat->Value}{base:List (Nat×Value)}{m p f:Nat}{ds:List Deferred}{listed:Array Bool}{a:Act}(h:Held ops D A dst val base m ds (f+1) listed a)(hp:p∈Region.ready .any ops listed)(hl:AT ops p=true) :
 f=0/\∀ i,i<ops.size->i≠p->listed.getD i false=true:=by
 unfold AT at hl;rw[List.all_eq_true] at hl;have key:∀ k i,ops.size - i=k->i<ops.size->i≠p->listed.getD i false=true:=by
  intro k
  induction k using Nat.strongRecOn with
  | ind k ih=>
   intro i hk his hip;have h1:=hl i (by rw[List.mem_range];exact his);simp only[Bool.or_eq_true,beq_iff_eq,hip,false_or,List.any_eq_true,List.mem_range,Bool.and_eq_true,Qa] at h1;obtain⟨j,hj,ct,h2⟩:=h1;rw[pQ hj] at h2;simp only[Array.any_eq_true',Bool.and_eq_true,beq_iff_eq] at h2;obtain⟨e,he,hb,rfl⟩:=h2;by_cases vF:j=p
   ·subst vF;obtain⟨_,o,ho,ba⟩:=mem_ready.1 hp;rw[pQ hj] at ho
    cases ho
    exact ba e he hb
   ·exact h.clo j _ (pQ hj) (ih (ops.size - j) (by omega) j rfl hj vF) e he hb
 have eS:p<ops.size:=by
  obtain⟨_,o,ho,_⟩:=mem_ready.1 hp;exact (eQ.1 ho).1
 refine⟨?_,λi hi hne=>key _ i rfl hi hne⟩;have ag:=h.good.size;have Z0:=h.good.left;have hc:listed.toList.count false<=1:=by
  have sW:p<listed.toList.length:=by simp[ag,eS]
  have ba:∀ j (hj:j<listed.toList.length),j≠p->listed.toList[j]=true:=λj hj hne=>by
   have hj':j<listed.size:=by simpa using hj
   have:=key _ j rfl (by rw[<-ag];exact hj') hne
   simpa [Array.getD,hj'] using this
  have e:listed.toList=listed.toList.take p++listed.toList[p]::listed.toList.drop (p+1):=by
   rw[<-sQ sW,List.take_append_drop]
  rw[e,List.count_append,List.count_cons];have c1:(listed.toList.take p).count false=0:=List.count_eq_zero.2 λhm=>by
   obtain⟨j,hj,nN⟩:=nQ.1 hm;rw[List.getElem_take] at nN;rw[List.length_take] at hj;rw[ba j (by omega) (by omega)] at nN
   cases nN
  have c2:(listed.toList.drop (p+1)).count false=0:=List.count_eq_zero.2 λhm=>by
   obtain⟨j,hj,nN⟩:=nQ.1 hm;rw[List.getElem_drop] at nN;rw[List.length_drop] at hj;rw[ba _ (by omega) (by omega)] at nN
   cases nN
  rw[c1,c2];split <;> omega
 omega
theorem Held.start{D:List Nat}{dst:Nat->Nat}{val:Nat->Value}{base:List (Nat×Value)}{m:Nat}{a:Act}(hb:∀ q∈base,a.eval (.tmp q.1)=q.2)(hm:a.tmps.size=m):Held ops D [] dst val base m a.defers ops.size (Array.replicate ops.size false) a:=
 ⟨kq.start hb hm,(λ_ h=>by cases h),λj o ho hj=>by simp[Array.getD] at hj⟩
end
end
section
open Go.RowKit
theorem Li{md:Region.Mode}{ops:Array Oper}{listed:Array Bool}(h:∀ i,i<ops.size->listed.getD i false=true)(hs:listed.size=ops.size):Region.ready md ops listed = []:=by
 apply List.eq_nil_iff_forall_not_mem.2;intro i hi;obtain⟨h1,o,ho,_⟩:=mem_ready.1 hi;have aa:=(eQ.1 ho).1;have h2:=h i aa;have h3:i<listed.size:=by rw[hs];exact aa
 simp[Array.getD,h3] at h1 h2;rw[h1] at h2;cases h2
def li(a:Act):List (Nat×Value)->Act
 | []=>a
 | q::l=>li (a.put (some q.1) q.2) l
theorem Px{a b:Act}(hs:a.tmps.size=b.tmps.size)(hd:a.defers=b.defers)(h:∀ j,a.eval (.tmp j)=b.eval (.tmp j)):a=b:=by
 obtain⟨t,d⟩:=a;obtain⟨t',d'⟩:=b;simp only at hs hd;subst hd;congr 1;apply Array.ext hs;intro i h1 h2
 have:=h i
 simpa [Act.eval,Array.getD_eq_getD_getElem?,h1,h2] using this
theorem Lf{a a0:Act}(hs:a.tmps.size=a0.tmps.size)(hd:a.defers=a0.defers):∀ (l:List (Nat×Value)),(∀ q∈l,q.1<a0.tmps.size)->(∀ q∈l,a.eval (.tmp q.1)=q.2)->(∀ j,(∀ q∈l,q.1≠j)->a.eval (.tmp j)=a0.eval (.tmp j))->a=li a0 l:=by
 intro l
 induction l generalizing a0 with
 | nil=>intro _ _ h;exact Px hs hd (λj=>h j (λq hq=>by cases hq))
 | cons q l ih=>
  intro aa h1 h2;rw[li];refine ih (by simpa [Act.put] using hs) (by simpa [Act.put] using hd) (λp hp=>by have:=aa p (mQ _ hp);simpa [Act.put] using this) (λp hp=>h1 p (mQ _ hp)) (λj hj=>?_);by_cases hq:q.1=j
  ·subst hq;rw[Bi _ _ _ (aa q (by simp))];exact h1 q (by simp)
  ·rw[ru _ _ _ _ hq];refine h2 j (λp hp=>?_);rcases List.mem_cons.1 hp with rfl | hp
   ·exact hq
   ·exact hj p hp
def kn(a0:Act)(m:Nat)(ds:List Nat):List (Nat×Value):=((List.range m).filter λj=>!ds.contains j).map λj=>(j,a0.eval (.tmp j))
theorem WD{a0:Act}{m:Nat}{ds:List Nat} : ∀ q∈kn a0 m ds,a0.eval (.tmp q.1)=q.2:=λq hq=>by
 obtain⟨j,_,rfl⟩:=List.mem_map.1 hq;rfl
theorem E0{a0:Act}{m:Nat}{ds:List Nat}{d:Nat}(hd:d∈ds):∀ q∈kn a0 m ds,d≠q.1:=λq hq e=>by
 obtain⟨j,hj,rfl⟩:=List.mem_map.1 hq
 have:=(List.mem_filter.1 hj).2
 simp only at e;subst e;simp[hd] at this
theorem aZ{a0 a:Act}{m:Nat}{ds:List Nat}(h:∀ q∈kn a0 m ds,a.eval (.tmp q.1)=q.2){j:Nat}(hj:j<m)(hd:j∉ds):a.eval (.tmp j)=a0.eval (.tmp j):=
 h (j,a0.eval (.tmp j)) (List.mem_map.2 ⟨j,List.mem_filter.2 ⟨List.mem_range.2 hj,by simpa using hd⟩,rfl⟩)
theorem YL{P:Program}{c:Code}{Q:Exit->Act->World->Prop}{a:Act}{w:World}(h:∀ a0,a0=a->c.wp P Q a0 w):c.wp P Q a w:=h a rfl
variable {ops:Array Oper}
theorem Held.frame{D A:List Nat}{dst:Nat->Nat}{val:Nat->Value}{m f:Nat}{listed:Array Bool}{a a0:Act}(h:Held ops D A dst val (kn a0 m (D.map dst)) m a0.defers f listed a)(hm:a0.tmps.size=m)(ba:∀ i∈D,listed.getD i false=true)(aa:∀ i∈D,dst i<m) :
 a=li a0 (D.map λi=>(dst i,val i)):=by
 refine Lf (by rw[h.good.tmps,hm]) h.good.defs _ (λq hq=>?_) (λq hq=>?_) (λj hj=>?_)
 ·obtain⟨i,hi,rfl⟩:=List.mem_map.1 hq;rw[hm];exact aa i hi
 ·obtain⟨i,hi,rfl⟩:=List.mem_map.1 hq;exact h.good.val i hi (ba i hi)
 ·by_cases vE:j<m
  ·refine aZ h.good.base vE (λhd=>?_);obtain⟨i,hi,rfl⟩:=List.mem_map.1 hd;exact hj _ (List.mem_map.2 ⟨i,hi,rfl⟩) rfl
  ·have h1:=h.good.tmps;simp[Act.eval,Array.getD_eq_getD_getElem?,h1,hm,vE]
theorem adJ{a0 a:Act}{m:Nat}{ds:List Nat}(h:∀ q∈kn a0 m ds,a.eval (.tmp q.1)=q.2){j:Nat}{v:Value}(e:a0.eval (.tmp j)=v)(hj:j<m:=by decide)(hd:j∉ds:=by decide):a.eval (.tmp j)=v:=(aZ h hj hd).trans e
end
section
open Go.RowKit
section
variable {P:Program} {ops:Array Oper} {Q:Exit->Act->World->Prop}
theorem Lj{listed:Array Bool}(hw:∀ (i:Nat) (o:Oper),ops[i]?=some o->∀ e∈o.after,Region.binds .any e=true->e.on<i)(ag:listed.size=ops.size):∀ p,p<ops.size->listed.getD p true=false->Region.ready .any ops listed≠[]:=by
 intro p
 induction p using Nat.strongRecOn with
 | _ p ih=>
  intro hp hl;by_cases ba:∀ e∈(ops[p]).after,Region.binds .any e=true->listed.getD e.on false=true
  ·intro h0
   have:p∈Region.ready .any ops listed:=mem_ready.2 ⟨hl,ops[p],pQ hp,ba⟩
   rw[h0] at this
   cases this
  ·simp only[Classical.not_forall] at ba;obtain⟨e,he,hb,hne⟩:=ba;have aa:=hw p _ (pQ hp) e he hb;refine ih e.on aa (by omega) ?_;have h1:e.on<listed.size:=by omega
   simpa [Array.getD,h1] using hne
def Fp(ops:Array Oper):Bool:=(List.range ops.size).all λi=>match ops[i]? with
 | some o=>o.after.all λe=>!Region.binds .any e||decide (e.on<i)
 | none=>true
theorem Mg(h:Fp ops=true):∀ (i:Nat) (o:Oper),ops[i]?=some o->∀ e∈o.after,Region.binds .any e=true->e.on<i:=by
 intro i o ho e he hb;unfold Fp at h;rw[List.all_eq_true] at h;have h1:=h i (by rw[List.mem_range];exact (eQ.1 ho).1);rw[ho] at h1;simp only[Array.all_eq_true_iff_forall_mem,Bool.or_eq_true,Qa,Bool.not_eq_true'] at h1;exact (h1 e he).resolve_left (by rw[hb];simp)
theorem Yu{w:World}{D A:List Nat}{dst:Nat->Nat}{val:Nat->Value}{base:List (Nat×Value)}{m p:Nat}{ds:List Deferred}
 (hw:∀ (i:Nat) (o:Oper),ops[i]?=some o->∀ e∈o.after,Region.binds .any e=true->e.on<i) (hp:p<ops.size) (kT:p∉D)
 (TN:∀ (i:Nat) (o:Oper),ops[i]?=some o->i∉D->i≠p->∃ e∈o.after,Region.binds .any e=true/\e.on∉D/\e.on<ops.size)
 (D6:∀ i∈D,i∉A->∃ o:Oper,ops[i]?=some o/\o.dst=some (dst i)) (aa:∀ i∈D,dst i<m) (qQ:∀ i∈D,∀ j∈D,j≠i->dst i≠dst j) (jF:∀ i∈D,∀ q∈base,dst i≠q.1)
 (hy:∀ i∈D,i∉A->∀ o:Oper,ops[i]?=some o->∀ a:Act,(∀ q∈base,a.eval (.tmp q.1)=q.2)->(∀ e∈o.after,Region.binds .any e=true->e.on∈D->a.eval (.tmp (dst e.on))=val e.on)->YieldsIn P ops (λw'=>w'=w) o (val i) a)
 (DR:∀ f listed a,Held ops D A dst val base m ds (f+1) listed a->p∈Region.ready .any ops listed->wpOp P ops Q p (wpAny P .any ops Q f (listed.setIfInBounds p true)) a w) :
 ∀ f listed a,Held ops D A dst val base m ds f listed a->wpAny P .any ops Q f listed a w:=by
 intro f
 induction f with
 | zero=>intro listed a h;exact absurd h.good (kq.none hp kT)
 | succ f ih=>
  intro listed a h;have hg:=h.good;refine⟨λh0=>absurd h0 (Lj hw hg.size p hp (hg.not p hp kT)),λi hi=>?_⟩;obtain⟨hr,o,ho,ba⟩:=mem_ready.1 hi;by_cases hip:i=p
  ·subst hip;exact DR f listed a h hi
  ·have po:i∈D:=Decidable.byContradiction λpo=>by
    obtain⟨e,he,DW,gF,hes⟩:=TN i o ho po hip;have h1:=ba e he DW;have h2:=hg.not e.on hes gF;have h3:e.on<listed.size:=by rw[hg.size];exact hes
    simp[Array.getD,h3] at h1 h2;rw[h1] at h2
    cases h2
   have cn:i∉A:=λhA=>by
    have h1:=h.done i hA;have h3:i<listed.size:=by rw[hg.size];exact (eQ.1 ho).1
    simp[Array.getD,h3] at h1 hr;rw[h1] at hr;cases hr
   obtain⟨o',ho',hd⟩:=D6 i po cn;rw[ho] at ho';cases ho';have Sl:∀ e∈o.after,Region.binds .any e=true->e.on∈D->a.eval (.tmp (dst e.on))=val e.on:=λe he DW hD=>hg.val _ hD (ba e he DW);have hq:=kq.step (P:=P) hg po hr ho hd (aa i po) (qQ i po) (jF i po) (hy i po cn o ho a hg.base Sl);exact wpOp_of_qOp (C:=λw'=>w'=w) rfl (λa' w' hw' h'=>by subst hw';exact ih _ a' ⟨h',λj hj=>tp (h.done j hj),Hu hi h.clo⟩) hq
def EZ(ops:Array Oper)(R:List Nat)(p:Nat):Bool:=(List.range ops.size).all λi=>i == p||R.contains i||(List.range ops.size).any λj=>decide (i<j)&&!R.contains j&&match ops[j]? with
 | some o=>o.after.any λe=>Region.binds .any e&&e.on == i
 | none=>false
theorem Held.most{D A R:List Nat}{dst:Nat->Nat}{val:Nat->Value}{base:List (Nat×Value)}{m p f:Nat}{ds:List Deferred}{listed:Array Bool}{a:Act}(h:Held ops D A dst val base m ds (f+1) listed a)(hp:p∈Region.ready .any ops listed)(hl:EZ ops R p=true) :
 ∀ i,i<ops.size->i≠p->i∉R->listed.getD i false=true:=by
 unfold EZ at hl;rw[List.all_eq_true] at hl;have key:∀ k i,ops.size - i=k->i<ops.size->i≠p->i∉R->listed.getD i false=true:=by
  intro k
  induction k using Nat.strongRecOn with
  | ind k ih=>
   intro i hk his hip pp;have h1:=hl i (by rw[List.mem_range];exact his);simp only[Bool.or_eq_true,beq_iff_eq,hip,List.contains_iff_mem,pp,false_or,List.any_eq_true,List.mem_range,Bool.and_eq_true,Qa,Bool.not_eq_true'] at h1;obtain⟨j,hj,⟨ct,Ag⟩,h2⟩:=h1;have Ag:j∉R:=λe=>by rw[List.contains_iff_mem.2 e] at Ag;cases Ag
   rw[pQ hj] at h2;simp only[Array.any_eq_true',Bool.and_eq_true,beq_iff_eq] at h2;obtain⟨e,he,hb,rfl⟩:=h2;by_cases vF:j=p
   ·subst vF;obtain⟨_,o,ho,ba⟩:=mem_ready.1 hp;rw[pQ hj] at ho
    cases ho
    exact ba e he hb
   ·exact h.clo j _ (pQ hj) (ih (ops.size - j) (by omega) j rfl hj vF Ag) e he hb
 exact λi hi hne hR=>key _ i rfl hi hne hR
structure Rest(ops:Array Oper)(R D:List Nat)(dst:Nat->Nat)(val:Nat->Value)(base:List (Nat×Value))(m:Nat)(ds:List Deferred)(f:Nat)(listed:Array Bool)(a:Act):Prop where
 defs:a.defers=ds
 size:listed.size=ops.size
 left:listed.toList.count false=f
 val:∀ i∈D,listed.getD i false=true->a.eval (.tmp (dst i))=val i
 base:∀ q∈base,a.eval (.tmp q.1)=q.2
 tmps:a.tmps.size=m
 out:∀ i,i<ops.size->i∉R->listed.getD i false=true
theorem Held.rest{D A R:List Nat}{dst:Nat->Nat}{val:Nat->Value}{base:List (Nat×Value)}{m p f:Nat}{ds:List Deferred}{listed:Array Bool}{a:Act}(h:Held ops D A dst val base m ds (f+1) listed a)(hp:p∈Region.ready .any ops listed)(kT:p∉D)(hl:EZ ops R p=true) :
 Rest ops R D dst val base m ds f (listed.setIfInBounds p true) a:=by
 have hg:=h.good;obtain⟨fk,o,ho,_⟩:=mem_ready.1 hp;have eS:p<ops.size:=(eQ.1 ho).1;have eG:p<listed.size:=by rw[hg.size];exact eS
 have ac:listed[p]=false:=by simpa [Array.getD,eG] using fk
 refine⟨hg.defs,by simp[hg.size],?_,λi hi hl=>?_,hg.base,hg.tmps,λi hi hR=>?_⟩
 ·have h1:=hg.left;rw[Array.toList_setIfInBounds,List.count_set (by simpa using eG)];simp[ac,h1]
 ·rcases AX hl with rfl | hl
  ·exact absurd hi kT
  ·exact hg.val i hi hl
 ·by_cases hip:i=p
  ·subst hip;simp[Array.getD,eG]
  ·exact tp (h.most hp hl i hi hip hR)
theorem Yv{w:World}{R D:List Nat}{dst:Nat->Nat}{val:Nat->Value}{a0:Act}{m:Nat}(hm:a0.tmps.size=m)
 (hw:∀ (i:Nat) (o:Oper),ops[i]?=some o->∀ e∈o.after,Region.binds .any e=true->e.on<i) (DL:∀ i∈R,i∈D) (RD:∀ i∈D,i<ops.size)
 (D6:∀ i∈R,∃ o:Oper,ops[i]?=some o/\o.dst=some (dst i)) (aa:∀ i∈D,dst i<m) (qQ:∀ i∈D,∀ j∈D,j≠i->dst i≠dst j) (hrel:∀ i∈R,∀ o:Oper,ops[i]?=some o->∀ e∈o.after,Region.binds .any e=true->e.on∈D)
 (hy:∀ i∈R,∀ o:Oper,ops[i]?=some o->∀ a:Act,(∀ e∈o.after,Region.binds .any e=true->a.eval (.tmp (dst e.on))=val e.on)->YieldsIn P ops (λw'=>w'=w) o (val i) a)
 (nJ:Q .normal (li a0 (D.map λi=>(dst i,val i))) w) :
 ∀ f listed a,Rest ops R D dst val (kn a0 m (D.map dst)) m a0.defers f listed a->wpAny P .any ops Q f listed a w:=by
 intro f
 induction f with
 | zero=>
  intro listed a h;have ba:∀ i,i<ops.size->listed.getD i false=true:=λi hi=>by
   have h1:=h.left;have eG:i<listed.size:=by rw[h.size];exact hi
   rw[List.count_eq_zero] at h1
   cases hb:listed[i] with
   | true=>simp[Array.getD,eG,hb]
   | false=>exact absurd (by rw[<-hb];simp) h1
  refine⟨Li ba h.size,?_⟩;have e:a=li a0 (D.map λi=>(dst i,val i)):=by
   refine Lf (by rw[h.tmps,hm]) h.defs _ (λq hq=>?_) (λq hq=>?_) (λj hj=>?_)
   ·obtain⟨i,hi,rfl⟩:=List.mem_map.1 hq;rw[hm];exact aa i hi
   ·obtain⟨i,hi,rfl⟩:=List.mem_map.1 hq;exact h.val i hi (ba i (RD i hi))
   ·by_cases vE:j<m
    ·refine aZ h.base vE (λhd=>?_);obtain⟨i,hi,rfl⟩:=List.mem_map.1 hd;exact hj _ (List.mem_map.2 ⟨i,hi,rfl⟩) rfl
    ·have h1:=h.tmps;simp[Act.eval,Array.getD_eq_getD_getElem?,h1,hm,vE]
  rw[e];exact nJ
 | succ f ih=>
  intro listed a h;refine⟨λh0=>?_,λi hi=>?_⟩
  ·have h1:=h.left;have h2:false∈listed.toList:=by rw[<-List.count_pos_iff];omega
   obtain⟨i,hi,he⟩:=nQ.1 h2;have eG:i<listed.size:=by simpa using hi
   exact absurd h0 (Lj hw h.size i (by rw[<-h.size];exact eG) (by simpa [Array.getD,eG] using he))
  ·obtain⟨hr,o,ho,ba⟩:=mem_ready.1 hi;have JC:=(eQ.1 ho).1;have eG:i<listed.size:=by rw[h.size];exact JC
   have pp:i∈R:=Decidable.byContradiction λhR=>by
    have h1:=h.out i JC hR;simp[Array.getD,eG] at h1 hr;rw[h1] at hr;cases hr
   have ac:listed[i]=false:=by simpa [Array.getD,eG] using hr
   obtain⟨o',ho',hd⟩:=D6 i pp;rw[ho] at ho';cases ho';have hq:qOp P ops (λw'=>w'=w) i (Rest ops R D dst val (kn a0 m (D.map dst)) m a0.defers f (listed.setIfInBounds i true)) a:=by
    refine (hy i pp o ho a (λe he hb=>h.val _ (hrel i pp o ho e he hb) (ba e he hb))).qOp ho ?_;rw[hd];refine⟨by simp[Act.put,h.defs],by simp[h.size],?_,λj hj hl=>?_,λq hq=>?_,by simp[Act.put,h.tmps],λj hj hR=>tp (h.out j hj hR)⟩
    ·have h1:=h.left;rw[Array.toList_setIfInBounds,List.count_set (by simpa using eG)];simp[ac,h1]
    ·by_cases hne:i=j
     ·subst hne;exact Bi a _ _ (by rw[h.tmps];exact aa i (DL i pp))
     ·rw[ru _ _ _ _ (qQ i (DL i pp) j hj (λe=>hne e.symm))];refine h.val j hj ?_;rcases AX hl with rfl | hl
      ·exact absurd rfl hne
      ·exact hl
    ·rw[ru _ _ _ _ (E0 (List.mem_map.2 ⟨i,DL i pp,rfl⟩) q hq)];exact h.base q hq
   exact wpOp_of_qOp (C:=λw'=>w'=w) rfl (λa' w' hw' h'=>by subst hw';exact ih _ a' h') hq
end
section
variable {P:Program} {ops:Array Oper} {Q:Exit->Act->World->Prop}
end
section
variable {P:Program} {ops:Array Oper} {Q:Exit->Act->World->Prop}
def stB(ops:Array Oper)(ord D A:List Nat)(p:Nat)(dst:Nat->Nat):Bool:=
 Fp ops&&Fo ops D p&&decide (p<ops.size)&&!D.contains p&&D.all λi=>ord.contains i&&(A.contains i||match ops[i]? with
  | some o=>o.dst == some (dst i)
  | none=>false)
def If(ops:Array Oper)(D:List Nat)(p k:Nat):Bool:=D.contains k&&match ops[p]? with
 | some o=>o.after.any λe=>Region.binds .any e&&e.on == k
 | none=>false
theorem iy{w:World}{ord D A:List Nat}{dst:Nat->Nat}{val:Nat->Value}{a0:Act}{m:Nat}(p:Nat){dsts:List Nat}{ds:List Deferred}{f:Nat}{listed:Array Bool}{a:Act}
 (h1:∀ i∈ord,dst i<m/\dst i∈dsts) (h2:∀ i∈ord,∀ j∈ord,j≠i->dst i≠dst j)
 (h:Held ops D A dst val (kn a0 m dsts) m ds f listed a) (hB:stB ops ord D A p dst=true)
 (hy:∀ i∈D,i∉A->∀ o:Oper,ops[i]?=some o->∀ a:Act,(∀ q∈kn a0 m dsts,a.eval (.tmp q.1)=q.2)->(∀ e∈o.after,Region.binds .any e=true->e.on∈D->a.eval (.tmp (dst e.on))=val e.on)->YieldsIn P ops (λw'=>w'=w) o (val i) a)
 (DR:∀ f listed a,Held ops D A dst val (kn a0 m dsts) m ds (f+1) listed a->p∈Region.ready .any ops listed->((k:Nat)->(_:If ops D p k=true:=by kernel_rfl)->a.eval (.tmp (dst k))=val k)->wpOp P ops Q p (wpAny P .any ops Q f (listed.setIfInBounds p true)) a w) :
 wpAny P .any ops Q f listed a w:=by
 simp only[stB,Bool.and_eq_true,Qa,Bool.not_eq_true',List.all_eq_true,List.contains_iff_mem,Bool.or_eq_true] at hB;obtain⟨⟨⟨⟨b1,b2⟩,b3⟩,b4⟩,b5⟩:=hB;have kT:p∉D:=λe=>by rw[List.contains_iff_mem.2 e] at b4;cases b4
 refine Yu (Mg b1) b3 kT (Yp b2) (λi hi hA=>?_) (λi hi=>(h1 i (b5 i hi).1).1) (λi hi j hj=>h2 i (b5 i hi).1 j (b5 j hj).1) (λi hi=>E0 (h1 i (b5 i hi).1).2) hy (λf listed a hH hr=>DR f listed a hH hr (λk hk=>?_)) f listed a h
 ·have:=(b5 i hi).2.resolve_left hA
  cases ho:ops[i]? with
  | none=>rw[ho] at this;cases this
  | some o=>rw[ho] at this;exact⟨o,rfl,by simpa using this⟩
 ·obtain⟨_,o,ho,ba⟩:=mem_ready.1 hr;simp only[If,ho,Bool.and_eq_true,List.contains_iff_mem] at hk;obtain⟨ST,hk⟩:=hk;rw[Array.any_eq_true'] at hk;obtain⟨e,he,h3⟩:=hk;simp only[Bool.and_eq_true,beq_iff_eq] at h3;obtain⟨h4,rfl⟩:=h3;exact hH.good.val _ ST (ba e he h4)
theorem vv{D:List Nat}{dst:Nat->Nat}{val:Nat->Value}{m:Nat}{dsts:List Nat}{a:Act}(hm:a.tmps.size=m):Held ops D [] dst val (kn a m dsts) m a.defers ops.size (Array.replicate ops.size false) a:=Held.start (λq hq=>WD q hq) hm
def nxB(ops:Array Oper)(ord D D':List Nat)(p:Nat):Bool:=ord.contains p&&decide (p<ops.size)&&!D.contains p&&D'.contains p&&D.all λi=>D'.contains i&&ord.contains i
theorem Held.next{ord D A D':List Nat}{dst:Nat->Nat}{val val':Nat->Value}{a0:Act}{m p f:Nat}{dsts:List Nat}{ds:List Deferred}{listed:Array Bool}{a:Act}{v:Value}(h:Held ops D A dst val (kn a0 m dsts) m ds (f+1) listed a)
 (h1:∀ i∈ord,dst i<m/\dst i∈dsts) (h2:∀ i∈ord,∀ j∈ord,j≠i->dst i≠dst j) (hp:p∈Region.ready .any ops listed) (EB:val' p=v:=by rfl) (hB:nxB ops ord D D' p=true:=by kernel_rfl)
 (hval:∀ i∈D,val' i=val i:=by intro i hi;(repeat' (rcases hi with _ | ⟨_,hi⟩)) <;> rfl) :
 Held ops D' (p::A) dst val' (kn a0 m dsts) m ds f (listed.setIfInBounds p true) (a.put (some (dst p)) v):=by
 simp only[nxB,Bool.and_eq_true,Qa,Bool.not_eq_true',List.all_eq_true,List.contains_iff_mem] at hB;obtain⟨⟨⟨⟨b1,b2⟩,b3⟩,b4⟩,b5⟩:=hB;have kT:p∉D:=λe=>by rw[List.contains_iff_mem.2 e] at b3;cases b3
 exact h.act hp kT (λi hi=>⟨λe=>hi (b5 i e).1,λe=>hi (e ▸ b4)⟩) hval EB (h1 p b1).1 (λj hj=>h2 p b1 j (b5 j hj).2 (λe=>kT (e ▸ hj))) (E0 (h1 p b1).2) b2
theorem BE{w:World}{D A:List Nat}{dst:Nat->Nat}{val:Nat->Value}{a0 a b:Act}{m p f:Nat}{dsts:List Nat}{listed:Array Bool}(h:Held ops D A dst val (kn a0 m (D.map dst)) m a0.defers (f+1) listed a)(hp:p∈Region.ready .any ops listed)(hm:a0.tmps.size=m)
 (h1:∀ i∈D,dst i<m/\dst i∈dsts) (hl:(AT ops p&&D.all λi=>decide (i<ops.size)&&i != p)=true) (nJ:a=li a0 (D.map λi=>(dst i,val i))->Q .normal b w):wpAny P .any ops Q f (listed.setIfInBounds p true) b w:=by
 simp only[Bool.and_eq_true,List.all_eq_true,Qa,bne_iff_ne] at hl;obtain⟨rfl,JK⟩:=h.all hp hl.1;have hG:=h.good;have hf:=Held.frame h hm (λi hi=>JK i (hl.2 i hi).1 (hl.2 i hi).2) (λi hi=>(h1 i hi).1);refine⟨Li (λi hi=>?_) (by rw[Array.size_setIfInBounds];exact hG.size),?_⟩
 ·by_cases hip:i=p
  ·subst hip;have hs:i<listed.size:=by rw[hG.size];exact hi
   simp[Array.getD,hs]
  ·exact tp (JK i hi hip)
 ·exact nJ hf
theorem gZ{A B:Prop}{w:World}{R:World->Prop}(h:A)(k:R w):(A/\∀ w',w'=w->R w')\/B:=.inl ⟨h,λw' e=>e ▸ k⟩
end
section
variable {P:Program} (w:World)
theorem WS(base:Nat)(t u ty e:TypeId)(i:TypeInfo)(ht:P.underlying t=some (.slice e))(hu:P.underlying u=some .string)(hi:P.info? e=some i)(hz:i.zero=some (.int .u8 0))
 (fN:i.size=1) (dY:i.bytes=1) (v:Value) (n:Nat) (xs:List Value) (hown:w.ownsRow base e 1 v n xs) (s:ByteArray) (fu:n+s.size<=maxLen) (ii:n+s.size<=140737488355328) (bL:base<=w.heap.size) :
 ∃ v' w',(Builtin.append_ #[t,u] ty #[v,.string s]).run P w = .ok v' w'/\w'.ownsRow base e 1 v' (n+s.size) (xs++Lib.strCells s)/\w.grownBy w' v.ownBlock/\(v'.ownBlock=v.ownBlock\/v'.ownBlock=some w.heap.size)/\(v' = .slice none 0 0↔v = .slice none 0 0/\s.size=0):=by
 obtain⟨v',w',bj,h2,h3,h4⟩:=Lib.run_append_own_string (P:=P) w base t u ty e i ht hu hi hz fN dY v n xs hown s fu ii bL;refine⟨v',w',bj,h2,h3,?_,h4⟩;have S9:n+s.size<=9223372036854775807:=by simp only[maxLen] at fu;omega
 rcases hown.2 with ⟨rfl,rfl⟩ | ⟨g,cap,cur,rfl,nH,hg,ik,pd,hcs,Ew⟩
 ·by_cases hm:s.size=0
  ·exact .inl (by rw[h4.2 ⟨rfl,hm⟩])
  ·have hr:=run_append_nil_string (P:=P) w t u ty e i (.int .u8 0) ht hu hi hz s (by omega) (by omega) (by rw[dY];omega);rw[hr] at bj;injection bj with h5 _
   exact .inr (by rw[<-h5];rfl)
 ·by_cases Es:n+s.size<=cap
  ·have hr:=Lib.run_append_room_string (P:=P) w t u ty e i ht hu hi fN g n cap cur hg s Es (by omega);rw[hr] at bj;injection bj with h5 _
   exact .inl (by rw[<-h5];rfl)
  ·have holds:∀ j u,xs[j]?=some u->w.cell? ((⟨g,0,none⟩:Addr).add j)=some u:=hown.cells (g:=g) rfl;have hr:=Lib.run_append_grow_string (P:=P) w t u ty e i (.int .u8 0) ht hu hi hz ⟨g,0,none⟩ n cap xs (by rw[fN];exact hown.1) holds s (by omega) (by omega) (by rw[dY];exact growslice_fits (by omega) (by omega));rw[hr] at bj;injection bj with h5 _
   exact .inr (by rw[<-h5];rfl)
theorem YD{ops:Array Oper}{rest:List Oper}{o:Oper}{a:Act}{Q:Exit->Act->World->Prop}(fh:o.guard=none)(sl x:Operand)(t u:TypeId)
 (ho:o.op = .call { callee:=.builtin .append,args:=#[sl,x],argTypes:=#[t,u] })
 (base:Nat) (e:TypeId) (i:TypeInfo) (ht:P.underlying t=some (.slice e)) (hu:P.underlying u=some .string) (hi:P.info? e=some i) (hz:i.zero=some (.int .u8 0)) (fN:i.size=1) (dY:i.bytes=1)
 (v:Value) (n:Nat) (xs:List Value) (hs:a.eval sl=v) (hown:w.ownsRow base e 1 v n xs) (s:ByteArray) (hx:a.eval x = .string s) (fu:n+s.size<=maxLen) (ii:n+s.size<=140737488355328) (bL:base<=w.heap.size)
 (h:∀ v' w',w'.ownsRow base e 1 v' (n+s.size) (xs++Lib.strCells s)->w.grownBy w' v.ownBlock->(v'.ownBlock=v.ownBlock\/v'.ownBlock=some w.heap.size)->(v' = .slice none 0 0↔v = .slice none 0 0/\s.size=0)->wpList P ops Q rest (a.put o.dst v') w'):wpList P ops Q (o::rest) a w:=by
 obtain⟨v',w',hr,h2,h3,h4,h5⟩:=WS (P:=P) w base t u o.type e i ht hu hi hz fN dY v n xs hown s fu ii bL;refine wpList_plain fh λK hK=>?_;unfold Oper.wp execOp;simp only[ho,resolve,invoke,builtin,Sem.run_bind,Sem.run_pure,Result.andThen_ok,List.map_toArray,List.map_cons,List.map_nil,hs,hx,hr];exact hK _ _ (h v' w' h2 h3 h4 h5)
end
theorem Tryz.infoByte:(prog.info? 5).map (λi=>(i.zero,i.size,i.bytes))=some (some (.int .u8 0),1,1):=by kernel_rfl
def fq(w:World)(base:Nat)(v:Value)(bs:List UInt8):Prop:=w.ownsRow base 5 1 v bs.length (bs.map λc=>Value.int .u8 c.toNat)
structure i7(v v':Value)(w w':World):Prop where
 grown:w.grownBy w' v.ownBlock
 at_:v'.ownBlock=v.ownBlock\/∃ k,w.heap.size<=k/\v'.ownBlock=some k
theorem i7.refl(v:Value)(w:World):i7 v v w w:=⟨⟨rfl,rfl,rfl,bQ _,λ_ _ _=>rfl⟩,.inl rfl⟩
theorem i7.trans{a b c:Value}{u v w:World}(h:i7 a b u v)(k:i7 b c v w):i7 a c u w:=by
 refine⟨⟨k.grown.os.trans h.grown.os,k.grown.tape.trans h.grown.tape,k.grown.output.trans h.grown.output,yQ h.grown.size k.grown.size,λi hi hne=>?_⟩,?_⟩
 ·refine (k.grown.block i (lQ hi h.grown.size) (λe=>?_)).trans (h.grown.block i hi hne);rcases h.at_ with e' | ⟨j,hj,e'⟩
  ·rw[e'] at e;exact hne e
  ·rw[e'] at e;simp at e;omega
 ·rcases k.at_ with e | ⟨j,hj,e⟩
  ·rcases h.at_ with e' | ⟨j,hj,e'⟩
   ·exact .inl (e.trans e')
   ·exact .inr ⟨j,hj,e.trans e'⟩
  ·exact .inr ⟨j,yQ h.grown.size hj,e⟩
theorem i7.below{v v':Value}{w w':World}{base n:Nat}{e:TypeId}{k:Nat}{xs:List Value}(h:i7 v v' w w')(ho:w.ownsRow base e 1 v k xs)(hb:n<=base)(hn:n<=w.heap.size):Below n w w':=
 ⟨h.grown.os,h.grown.tape,h.grown.output,h.grown.size,λi hi=>h.grown.block i (by omega) (λe=>by have:=(tw ho i e.symm).1;omega)⟩
theorem i7.of_below{v v':Value}{w w1 w2:World}(hb:Below w.heap.size w w1)(h:i7 v v' w1 w2):i7 v v' w w2:=by
 refine⟨⟨h.grown.os.trans hb.os,h.grown.tape.trans hb.tape,h.grown.output.trans hb.output,yQ hb.size h.grown.size,λi hi hne=>(h.grown.block i (lQ hi hb.size) hne).trans (hb.block i hi)⟩,?_⟩;rcases h.at_ with e | ⟨k,hk,e⟩
 ·exact .inl e
 ·exact .inr ⟨k,yQ hb.size hk,e⟩
section
variable {P:Program} (w:World)
theorem W7(base:Nat)(t u ty e:TypeId)(i:TypeInfo)(ht:P.underlying t=some (.slice e))(hu:P.underlying u=some .string)(hi:P.info? e=some i)(hz:i.zero=some (.int .u8 0))
 (fN:i.size=1) (dY:i.bytes=1) (v:Value) (n:Nat) (xs:List Value) (hown:w.ownsRow base e 1 v n xs) (s:ByteArray) (fu:n+s.size<=maxLen) (ii:n+s.size<=140737488355328) (bL:base<=w.heap.size) :
 ∃ v' w',(Builtin.append_ #[t,u] ty #[v,.string s]).run P w = .ok v' w'/\w'.ownsRow base e 1 v' (n+s.size) (xs++Lib.strCells s)/\w.grownBy w' v.ownBlock/\(v'.ownBlock=v.ownBlock\/v'.ownBlock=some w.heap.size):=by
 obtain⟨v',w',bj,h2,h3,h4⟩:=Lib.run_append_own_string (P:=P) w base t u ty e i ht hu hi hz fN dY v n xs hown s fu ii bL;refine⟨v',w',bj,h2,h3,?_⟩;have S9:n+s.size<=9223372036854775807:=by simp only[maxLen] at fu;omega
 rcases hown.2 with ⟨rfl,rfl⟩ | ⟨g,cap,cur,rfl,nH,hg,ik,pd,hcs,Ew⟩
 ·by_cases hm:s.size=0
  ·exact .inl (by rw[h4.2 ⟨rfl,hm⟩])
  ·have hr:=run_append_nil_string (P:=P) w t u ty e i (.int .u8 0) ht hu hi hz s (by omega) (by omega) (by rw[dY];omega);rw[hr] at bj;injection bj with h5 _
   exact .inr (by rw[<-h5];rfl)
 ·by_cases Es:n+s.size<=cap
  ·have hr:=Lib.run_append_room_string (P:=P) w t u ty e i ht hu hi fN g n cap cur hg s Es (by omega);rw[hr] at bj;injection bj with h5 _
   exact .inl (by rw[<-h5];rfl)
  ·have holds:∀ j u,xs[j]?=some u->w.cell? ((⟨g,0,none⟩:Addr).add j)=some u:=hown.cells (g:=g) rfl;have hr:=Lib.run_append_grow_string (P:=P) w t u ty e i (.int .u8 0) ht hu hi hz ⟨g,0,none⟩ n cap xs (by rw[fN];exact hown.1) holds s (by omega) (by omega) (by rw[dY];exact growslice_fits (by omega) (by omega));rw[hr] at bj;injection bj with h5 _
   exact .inr (by rw[<-h5];rfl)
theorem W6{ops:Array Oper}{rest:List Oper}{o:Oper}{a:Act}{Q:Exit->Act->World->Prop}(fh:o.guard=none)(sl x:Operand)(t u:TypeId)
 (ho:o.op = .call { callee:=.builtin .append,args:=#[sl,x],argTypes:=#[t,u] })
 (base:Nat) (e:TypeId) (i:TypeInfo) (ht:P.underlying t=some (.slice e)) (hu:P.underlying u=some .string) (hi:P.info? e=some i) (hz:i.zero=some (.int .u8 0)) (fN:i.size=1) (dY:i.bytes=1)
 (v:Value) (n:Nat) (xs:List Value) (hs:a.eval sl=v) (hown:w.ownsRow base e 1 v n xs) (s:ByteArray) (hx:a.eval x = .string s) (fu:n+s.size<=maxLen) (ii:n+s.size<=140737488355328) (bL:base<=w.heap.size)
 (h:∀ v' w',w'.ownsRow base e 1 v' (n+s.size) (xs++Lib.strCells s)->w.grownBy w' v.ownBlock->(v'.ownBlock=v.ownBlock\/v'.ownBlock=some w.heap.size)->wpList P ops Q rest (a.put o.dst v') w'):wpList P ops Q (o::rest) a w:=by
 obtain⟨v',w',hr,h2,h3,h4⟩:=W7 (P:=P) w base t u o.type e i ht hu hi hz fN dY v n xs hown s fu ii bL;refine wpList_plain fh λK hK=>?_;unfold Oper.wp execOp;simp only[ho,resolve,invoke,builtin,Sem.run_bind,Sem.run_pure,Result.andThen_ok,List.map_toArray,List.map_cons,List.map_nil,hs,hx,hr];exact hK _ _ (h v' w' h2 h3 h4)
end
theorem Tryz.infoByteSg:(prog.info? 5).map (λi=>(i.zero,i.size,i.bytes))=some (some (.int .u8 0),1,1):=by kernel_rfl
def ow(base:Nat)(v:Value)(bs:List UInt8)(w:World)(e:Ending)(w':World):Prop:=∃ v',e = .returned v'/\fq w' base v' bs/\i7 v v' w w'
theorem Xo(s:ByteArray):Lib.strCells s=s.data.toList.map λc=>Value.int .u8 c.toNat:=rfl
theorem mO{w:World}{base:Nat}{v:Value}{bs:List UInt8}{k:Int}{c:UInt8}(hc:(c.toNat:Int)=k)(h:w.ownsRow base 5 1 v (bs.length+1) ((bs.map λc=>Value.int .u8 c.toNat) ++ [.int .u8 k])):fq w base v (bs ++ [c]):=by
 unfold fq;subst hc;simpa using h
theorem VL{w:World}{base:Nat}{v:Value}{bs:List UInt8}{s:ByteArray}(h:w.ownsRow base 5 1 v (bs.length+s.size) ((bs.map λc=>Value.int .u8 c.toNat)++Lib.strCells s)):fq w base v (bs++s.data.toList):=by
 unfold fq;rw[Xo,<-List.map_append] at h;simpa using h
theorem lJ{v v':Value}{w w':World}(hg:w.grownBy w' v.ownBlock)(hat:v'.ownBlock=v.ownBlock\/v'.ownBlock=some w.heap.size):i7 v v' w w':=
 ⟨hg,hat.elim .inl λh=>.inr ⟨_,bQ _,h⟩⟩
theorem PL(base:Nat)(v:Value)(bs:List UInt8)(s:ByteArray)(hl:bs.length<=1000000)(hs:s.size<=255)(w:World)(hb:base<=w.heap.size)(h:fq w base v bs) :
 Calls prog 315 #[v,.string s] w (ow base v (bs++(UInt8.ofNat s.size::s.data.toList)) w):=by
 obtain⟨A,cap,rfl⟩:=jr h;have H:=jq h;clear h;obtain⟨i0,hi,bd,aK,aC⟩:=info_parts Tryz.infoByteSg;go_enter func315,ntmps315;go_wp2_with (first
  | (at_builtin;refine wpList_append_own_at _ rfl _ _ 196 rfl base 5 i0 (.int .u8 0) 1 1 underlying196 hi bd aK aC rfl (by decide) _ _ _ rfl (H.out.alloc _) ⟨w.heap.size,0,none⟩ 1 1 [.int .u8 s.size] rfl rfl (cell_one_new _ _ _) (by simp[Value.oneCell']) (by unfold maxLen;omega) (by omega) (by simp;omega) ?_;intro v1 w1 em cM _ ei;have H1:=jq (And.intro em (And.intro cM ei));clear em cM ei)
  | (at_builtin;refine W6 _ rfl _ _ 196 9 rfl base 5 i0 underlying196 underlying9 hi bd aK aC _ _ _ rfl H1.out.1 s rfl (by unfold maxLen;omega) (by omega) (by have:=H1.out.2.1.size;simp at this;omega) ?_;intro v2 w2 JZ nL I6;have H2:=jq (And.intro JZ (And.intro nL I6));clear JZ nL I6))
 go_ret;obtain⟨o1,g1,a1⟩:=H1.out;obtain⟨o2,g2,a2⟩:=H2.out;refine⟨_,rfl,?_,?_⟩
 ·have:=VL (bs:=bs ++ [UInt8.ofNat s.size]) (s:=s) (w:=w2) (base:=base) (v:=v2) (by
   have hc:(UInt8.ofNat s.size).toNat=s.size:=by simp;omega
   simp[hc];simpa using o2)
  simpa using this
 ·exact ((lJ g1 a1).of_below ((vQ _ w).alloc (bQ _) _)).trans (lJ g2 a2)
theorem PK(base:Nat)(v:Value)(bs:List UInt8)(n:Nat)(hl:bs.length<=1000000)(hn:n<9223372036854775808)(w:World)(hb:base<=w.heap.size)(h:fq w base v bs) :
 Calls prog 316 #[v,.int .i64 n] w (ow base v (bs++(List.range 8).map λi=>UInt8.ofNat (n / 2 ^ (56 - 8 * i))) w):=by
 obtain⟨A,cap,rfl⟩:=jr h;have H:=jq h;clear h;obtain⟨i0,hi,bd,aK,aC⟩:=info_parts Tryz.infoByteSg;go_enter func316,ntmps316;go_wp2_with fail;go_loopw [0,5] (λvb vs wr=>∃ k:Nat,k<=8/\vs = .int .i64 (56 - 8 * k)/\Hid (fq wr base vb (bs++(List.range k).map λi=>UInt8.ofNat (n / 2 ^ (56 - 8 * i))))/\Hid (i7 (.slice A bs.length cap) vb w wr)) (λ_ i _=>(intOf i+8).toNat)
 case atStart=>exact⟨0,by omega,rfl,by simpa using H,jq (i7.refl _ _)⟩
 case round=>
  obtain⟨k,hk,rfl,HO,HH⟩:=hrel;obtain⟨A1,c1,rfl⟩:=jr HO.out;have ag:=HH.out.grown.size;rcases (by omega:k=0\/k=1\/k=2\/k=3\/k=4\/k=5\/k=6\/k=7\/k=8) with rfl | rfl | rfl | rfl | rfl | rfl | rfl | rfl | rfl
  ·go_wp2_with (at_builtin;refine wpList_append_own_at _ rfl _ _ 196 rfl base 5 i0 (.int .u8 0) 1 1 underlying196 hi bd aK aC rfl (by decide) _ _ _ rfl (World.ownsRow.alloc HO.out _) ⟨wr.heap.size,0,none⟩ 1 1 [_] rfl rfl (cell_one_new _ _ _) (by simp[Value.oneCell']) (by unfold maxLen;simp;omega) (by simp;omega) (by simp;omega) ?_;intro v1 w1 em cM _ ei;have H1:=jq (And.intro em (And.intro cM ei));clear em cM ei);obtain⟨o1,g1,a1⟩:=H1.out;refine⟨⟨1,by omega,rfl,jq ?_,jq (HH.out.trans ((lJ g1 a1).of_below ((vQ _ wr).alloc (bQ _) _)))⟩,by simp[intOf]⟩;rw[List.range_succ,List.map_append,<-List.append_assoc];refine mO ?_ o1;simp
   try omega
  ·go_wp2_with (at_builtin;refine wpList_append_own_at _ rfl _ _ 196 rfl base 5 i0 (.int .u8 0) 1 1 underlying196 hi bd aK aC rfl (by decide) _ _ _ rfl (World.ownsRow.alloc HO.out _) ⟨wr.heap.size,0,none⟩ 1 1 [_] rfl rfl (cell_one_new _ _ _) (by simp[Value.oneCell']) (by unfold maxLen;simp;omega) (by simp;omega) (by simp;omega) ?_;intro v1 w1 em cM _ ei;have H1:=jq (And.intro em (And.intro cM ei));clear em cM ei);obtain⟨o1,g1,a1⟩:=H1.out;refine⟨⟨2,by omega,rfl,jq ?_,jq (HH.out.trans ((lJ g1 a1).of_below ((vQ _ wr).alloc (bQ _) _)))⟩,by simp[intOf]⟩;rw[List.range_succ,List.map_append,<-List.append_assoc];refine mO ?_ o1;simp
   try omega
  ·go_wp2_with (at_builtin;refine wpList_append_own_at _ rfl _ _ 196 rfl base 5 i0 (.int .u8 0) 1 1 underlying196 hi bd aK aC rfl (by decide) _ _ _ rfl (World.ownsRow.alloc HO.out _) ⟨wr.heap.size,0,none⟩ 1 1 [_] rfl rfl (cell_one_new _ _ _) (by simp[Value.oneCell']) (by unfold maxLen;simp;omega) (by simp;omega) (by simp;omega) ?_;intro v1 w1 em cM _ ei;have H1:=jq (And.intro em (And.intro cM ei));clear em cM ei);obtain⟨o1,g1,a1⟩:=H1.out;refine⟨⟨3,by omega,rfl,jq ?_,jq (HH.out.trans ((lJ g1 a1).of_below ((vQ _ wr).alloc (bQ _) _)))⟩,by simp[intOf]⟩;rw[List.range_succ,List.map_append,<-List.append_assoc];refine mO ?_ o1;simp
   try omega
  ·go_wp2_with (at_builtin;refine wpList_append_own_at _ rfl _ _ 196 rfl base 5 i0 (.int .u8 0) 1 1 underlying196 hi bd aK aC rfl (by decide) _ _ _ rfl (World.ownsRow.alloc HO.out _) ⟨wr.heap.size,0,none⟩ 1 1 [_] rfl rfl (cell_one_new _ _ _) (by simp[Value.oneCell']) (by unfold maxLen;simp;omega) (by simp;omega) (by simp;omega) ?_;intro v1 w1 em cM _ ei;have H1:=jq (And.intro em (And.intro cM ei));clear em cM ei);obtain⟨o1,g1,a1⟩:=H1.out;refine⟨⟨4,by omega,rfl,jq ?_,jq (HH.out.trans ((lJ g1 a1).of_below ((vQ _ wr).alloc (bQ _) _)))⟩,by simp[intOf]⟩;rw[List.range_succ,List.map_append,<-List.append_assoc];refine mO ?_ o1;simp
   try omega
  ·go_wp2_with (at_builtin;refine wpList_append_own_at _ rfl _ _ 196 rfl base 5 i0 (.int .u8 0) 1 1 underlying196 hi bd aK aC rfl (by decide) _ _ _ rfl (World.ownsRow.alloc HO.out _) ⟨wr.heap.size,0,none⟩ 1 1 [_] rfl rfl (cell_one_new _ _ _) (by simp[Value.oneCell']) (by unfold maxLen;simp;omega) (by simp;omega) (by simp;omega) ?_;intro v1 w1 em cM _ ei;have H1:=jq (And.intro em (And.intro cM ei));clear em cM ei);obtain⟨o1,g1,a1⟩:=H1.out;refine⟨⟨5,by omega,rfl,jq ?_,jq (HH.out.trans ((lJ g1 a1).of_below ((vQ _ wr).alloc (bQ _) _)))⟩,by simp[intOf]⟩;rw[List.range_succ,List.map_append,<-List.append_assoc];refine mO ?_ o1;simp
   try omega
  ·go_wp2_with (at_builtin;refine wpList_append_own_at _ rfl _ _ 196 rfl base 5 i0 (.int .u8 0) 1 1 underlying196 hi bd aK aC rfl (by decide) _ _ _ rfl (World.ownsRow.alloc HO.out _) ⟨wr.heap.size,0,none⟩ 1 1 [_] rfl rfl (cell_one_new _ _ _) (by simp[Value.oneCell']) (by unfold maxLen;simp;omega) (by simp;omega) (by simp;omega) ?_;intro v1 w1 em cM _ ei;have H1:=jq (And.intro em (And.intro cM ei));clear em cM ei);obtain⟨o1,g1,a1⟩:=H1.out;refine⟨⟨6,by omega,rfl,jq ?_,jq (HH.out.trans ((lJ g1 a1).of_below ((vQ _ wr).alloc (bQ _) _)))⟩,by simp[intOf]⟩;rw[List.range_succ,List.map_append,<-List.append_assoc];refine mO ?_ o1;simp
   try omega
  ·go_wp2_with (at_builtin;refine wpList_append_own_at _ rfl _ _ 196 rfl base 5 i0 (.int .u8 0) 1 1 underlying196 hi bd aK aC rfl (by decide) _ _ _ rfl (World.ownsRow.alloc HO.out _) ⟨wr.heap.size,0,none⟩ 1 1 [_] rfl rfl (cell_one_new _ _ _) (by simp[Value.oneCell']) (by unfold maxLen;simp;omega) (by simp;omega) (by simp;omega) ?_;intro v1 w1 em cM _ ei;have H1:=jq (And.intro em (And.intro cM ei));clear em cM ei);obtain⟨o1,g1,a1⟩:=H1.out;refine⟨⟨7,by omega,rfl,jq ?_,jq (HH.out.trans ((lJ g1 a1).of_below ((vQ _ wr).alloc (bQ _) _)))⟩,by simp[intOf]⟩;rw[List.range_succ,List.map_append,<-List.append_assoc];refine mO ?_ o1;simp
   try omega
  ·go_wp2_with (at_builtin;refine wpList_append_own_at _ rfl _ _ 196 rfl base 5 i0 (.int .u8 0) 1 1 underlying196 hi bd aK aC rfl (by decide) _ _ _ rfl (World.ownsRow.alloc HO.out _) ⟨wr.heap.size,0,none⟩ 1 1 [_] rfl rfl (cell_one_new _ _ _) (by simp[Value.oneCell']) (by unfold maxLen;simp;omega) (by simp;omega) (by simp;omega) ?_;intro v1 w1 em cM _ ei;have H1:=jq (And.intro em (And.intro cM ei));clear em cM ei);obtain⟨o1,g1,a1⟩:=H1.out;refine⟨⟨8,by omega,rfl,jq ?_,jq (HH.out.trans ((lJ g1 a1).of_below ((vQ _ wr).alloc (bQ _) _)))⟩,by simp[intOf]⟩;rw[List.range_succ,List.map_append,<-List.append_assoc];refine mO ?_ o1;simp
   try omega
  ·go_wp2_with fail;go_ret;exact⟨_,rfl,HO.out,HH.out⟩
def Np.dig(d:Int)(bs:List Int):Int:=bs.foldl (λd c=>IntKind.u64.wrap (bits .xor .u64 d (IntKind.u64.wrap c) * 1099511628211)) d
def mb(w:World)(b:Nat)(v:Value)(bs:List Int):Prop:=∃ A c,v = .slice A bs.length c/\bs.length<=140737488355328/\bs.length<=c/\∀ i x,bs[i]?=some x->∃ k o,A=some ⟨k,o,none⟩/\k≠b/\k<w.heap.size/\w.cell? ⟨k,o+i,none⟩=some (.int .u8 x)
theorem QG(d:Int)(bs:List Int)(k:Nat)(h:k<bs.length):Np.dig d (bs.take (k+1))=IntKind.u64.wrap (bits .xor .u64 (Np.dig d (bs.take k)) (IntKind.u64.wrap bs[k]) * 1099511628211):=by
 rw[List.take_add_one,aQ h,Np.dig,List.foldl_append];rfl
theorem QF(d:Int)(a b:List Int):Np.dig d (a++b)=Np.dig (Np.dig d a) b:=List.foldl_append
theorem So{w:World}{b:Nat}{u v:Value}{t:TypeId}(h:w.heap[b]?=some (.cells #[u] t)):(w.setCell ⟨b,0,none⟩ v).heap[b]?=some (.cells #[v] t):=by
 simp[World.setCell,Array.getElem?_modify,h]
theorem yU(b:Nat)(d:Int)(v:Value)(bs:List Int)(w:World)(t:TypeId)(hc:w.heap[b]?=some (.cells #[.int .u64 d] t))(hv:mb w b v bs) :
 Calls prog 318 #[.pointer (some ⟨b,0,none⟩),v] w λe w'=>e = .returned (.tuple #[])/\Turned b w w'/\w'.heap[b]?=some (.cells #[.int .u64 (Np.dig d bs)] t):=by
 have HV:=jq hv;obtain⟨A,cap,rfl,_⟩:=hv;go_enter func318,ntmps318;go_wp2_with fail;go_loopw [8] (λi wr=>∃ k:Nat,k<=bs.length/\i = .int .i64 k/\Turned b w wr/\wr.heap[b]?=some (.cells #[.int .u64 (Np.dig d (bs.take k))] t)) (λi _=>bs.length - (intOf i).toNat)
 case atStart=>exact⟨0,by omega,rfl,Turned.refl _ _,by simpa [Np.dig] using hc⟩
 case round=>
  obtain⟨k,hk,rfl,ht,lM⟩:=hrel;by_cases aa:k<bs.length
  ·obtain⟨A',c',hA',_,_,aL⟩:=HV.out
   cases hA'
   obtain⟨g,o,rfl,fw,nM,hce⟩:=aL k _ (aQ aa);have h0:wr.cell? ⟨g,o+k,none⟩=some (.int .u8 bs[k]):=(ht.cell fw).trans hce;have h1:wr.cell? ⟨b,0,none⟩=some (.int .u64 (Np.dig d (bs.take k))):=by unfold World.cell?;rw[lM];rfl
   have h2:wr.frozen? ⟨b,0,none⟩=false:=by unfold World.frozen?;rw[lM];rfl
   clear aL hce;have HT:=jq ht;have HC:=jq lM;clear ht lM;go_wp2_with fail;refine⟨⟨k+1,by omega,rfl,HT.out.trans (XR _ _ _),?_⟩,by simp[intOf];omega⟩;rw[So HC.out];rw[QG d bs k aa]
  ·have:k=bs.length:=by omega
   subst this;have HT:=jq ht;have HC:=jq lM;clear ht lM;go_wp2_with fail;go_end0;exact⟨rfl,HT.out,by simpa using HC.out⟩
theorem Rs(b:Nat)(w:World):w.grownBy w (some b):=⟨rfl,rfl,rfl,bQ _,λ_ _ _=>rfl⟩
theorem IE{b:Nat}{u v w:World}(h:u.grownBy v (some b))(k:v.grownBy w (some b)):u.grownBy w (some b):=
 ⟨k.os.trans h.os,k.tape.trans h.tape,k.output.trans h.output,yQ h.size k.size,λi hi hne=>(k.block i (lQ hi h.size) hne).trans (h.block i hi hne)⟩
theorem Rq{b:Nat}{w w':World}(h:Below w.heap.size w w'):w.grownBy w' (some b):=⟨h.os,h.tape,h.output,h.size,λi hi _=>h.block i hi⟩
theorem Rr{b:Nat}{w w':World}(h:w.grownBy w' (some b)){p:Addr}(hp:p.block≠b)(hl:p.block<w.heap.size):w'.cell? p=w.cell? p:=by
 unfold World.cell?;rw[h.block _ hl (λe=>hp (by simpa using e))]
def Np.qz(n:Int)(i:Nat):Int:=IntKind.u64.wrap n / 2 ^ (56 - 8 * i) % 256
def Np.gq(n:Int)(k:Nat):Array Value:=((List.range 8).map λi=>Value.int .u8 (if i<k then Np.qz n i else 0)).toArray
theorem Ya(wr:World)(n:Int):wr.alloc (.cells ((Np.gq n 0).setIfInBounds 0 (.int .u8 (IntKind.u64.wrap n / 72057594037927936 % 256))) 347)=wr.alloc (.cells (Np.gq n 1) 347):=rfl
theorem Yb(wr:World)(n:Int):wr.alloc (.cells ((Np.gq n 1).setIfInBounds 1 (.int .u8 (IntKind.u64.wrap n / 281474976710656 % 256))) 347)=wr.alloc (.cells (Np.gq n 2) 347):=rfl
theorem Yc(wr:World)(n:Int):wr.alloc (.cells ((Np.gq n 2).setIfInBounds 2 (.int .u8 (IntKind.u64.wrap n / 1099511627776 % 256))) 347)=wr.alloc (.cells (Np.gq n 3) 347):=rfl
theorem Yd(wr:World)(n:Int):wr.alloc (.cells ((Np.gq n 3).setIfInBounds 3 (.int .u8 (IntKind.u64.wrap n / 4294967296 % 256))) 347)=wr.alloc (.cells (Np.gq n 4) 347):=rfl
theorem Ye(wr:World)(n:Int):wr.alloc (.cells ((Np.gq n 4).setIfInBounds 4 (.int .u8 (IntKind.u64.wrap n / 16777216 % 256))) 347)=wr.alloc (.cells (Np.gq n 5) 347):=rfl
theorem Yf(wr:World)(n:Int):wr.alloc (.cells ((Np.gq n 5).setIfInBounds 5 (.int .u8 (IntKind.u64.wrap n / 65536 % 256))) 347)=wr.alloc (.cells (Np.gq n 6) 347):=rfl
theorem Yg(wr:World)(n:Int):wr.alloc (.cells ((Np.gq n 6).setIfInBounds 6 (.int .u8 (IntKind.u64.wrap n / 256 % 256))) 347)=wr.alloc (.cells (Np.gq n 7) 347):=rfl
theorem Yh(wr:World)(n:Int):wr.alloc (.cells ((Np.gq n 7).setIfInBounds 7 (.int .u8 (IntKind.u64.wrap n % 256))) 347)=wr.alloc (.cells (Np.gq n 8) 347):=by
 rw[<-Int.ediv_one (IntKind.u64.wrap n)];rfl
theorem Yi(wr:World)(b:Nat)(n:Int)(h:b<wr.heap.size):mb (wr.alloc (.cells (Np.gq n 8) 347)) b (.slice (some ⟨wr.heap.size,0,none⟩) 8 8) ((List.range 8).map (Np.qz n)):=by
 refine⟨_,8,rfl,by simp,by simp,λi x hx=>⟨wr.heap.size,0,rfl,by omega,by simp,?_⟩⟩;have hi:i<8:=by have:=(cQ.1 hx).1;simpa using this
 simp[hi] at hx;subst hx
 have:(Np.gq n 8)[i]?=some (.int .u8 (Np.qz n i)):=by simp[Np.gq,hi]
 unfold World.cell?;simp only[World.alloc_heap_new];simpa using this
theorem VC(b:Nat)(d:Int)(xs:List Int)(w:World)(t:TypeId)(hc:w.heap[b]?=some (.cells #[.int .u64 d] t))(A0:Nat)(hv:∀ i x,xs[i]?=some x->w.cell? ⟨A0,i,none⟩=some (.int .i64 x))(hA:A0≠b)(hA':A0<w.heap.size)(hl:xs.length<=100) :
 Calls prog 317 #[.slice (some ⟨A0,0,none⟩) xs.length xs.length,.pointer (some ⟨b,0,none⟩)] w λe w'=>e = .returned (.tuple #[])/\w.grownBy w' (some b)/\w'.heap[b]?=some (.cells #[.int .u64 (Np.dig d (xs.flatMap λn=>(List.range 8).map (Np.qz n)))] t):=by
 have bC:b<w.heap.size:=(eQ.1 hc).1;have HV:=jq hv;clear hv;go_enter func317,ntmps317;go_wp2_with fail;go_loopw [9] (λi wr=>∃ k:Nat,k<=xs.length/\i = .int .i64 k/\w.grownBy wr (some b)/\wr.heap[b]?=some (.cells #[.int .u64 (Np.dig d ((xs.take k).flatMap λn=>(List.range 8).map (Np.qz n)))] t)) (λi _=>xs.length - (intOf i).toNat)
 case atStart=>exact⟨0,by omega,rfl,Rs _ _,by simpa [Np.dig] using hc⟩
 case round=>
  obtain⟨k,hk,rfl,ht,lM⟩:=hrel;have ag:=ht.size;by_cases aa:k<xs.length
  ·have h0:wr.cell? ⟨A0,k,none⟩=some (.int .i64 xs[k]):=(Rr ht hA hA').trans (HV.out k _ (aQ aa));have HT:=jq ht;have HC:=jq lM;clear ht lM;go_wp2_with fail;go_loopw [13] (λi wi=>∃ j:Nat,j<=8/\i = .int .i64 j/\wi=wr.alloc (.cells (Np.gq xs[k] j) 347)) (λi _=>8 - (intOf i).toNat)
   case atStart=>exact⟨0,by omega,rfl,rfl⟩
   case round=>
    obtain⟨j,hj,rfl,rfl⟩:=hrel;rcases (by omega:j=0\/j=1\/j=2\/j=3\/j=4\/j=5\/j=6\/j=7\/j=8) with rfl | rfl | rfl | rfl | rfl | rfl | rfl | rfl | rfl
    ·go_wp2_with fail;exact⟨⟨1,by omega,rfl,Ya wr xs[k]⟩,by simp[intOf]⟩
    ·go_wp2_with fail;exact⟨⟨2,by omega,rfl,Yb wr xs[k]⟩,by simp[intOf]⟩
    ·go_wp2_with fail;exact⟨⟨3,by omega,rfl,Yc wr xs[k]⟩,by simp[intOf]⟩
    ·go_wp2_with fail;exact⟨⟨4,by omega,rfl,Yd wr xs[k]⟩,by simp[intOf]⟩
    ·go_wp2_with fail;exact⟨⟨5,by omega,rfl,Ye wr xs[k]⟩,by simp[intOf]⟩
    ·go_wp2_with fail;exact⟨⟨6,by omega,rfl,Yf wr xs[k]⟩,by simp[intOf]⟩
    ·go_wp2_with fail;exact⟨⟨7,by omega,rfl,Yg wr xs[k]⟩,by simp[intOf]⟩
    ·go_wp2_with fail;exact⟨⟨8,by omega,rfl,Yh wr xs[k]⟩,by simp[intOf]⟩
    ·go_wp2_with (go_at_call 318;refine (yU b _ _ ((List.range 8).map (Np.qz xs[k])) _ t ((@heap_alloc_old _ _ _ (by omega)).trans HC.out) (Yi wr b xs[k] (by omega))).mono ?_;rintro e w' ⟨rfl,pG,aT⟩;have CF:=jq pG;have cT:=jq aT;clear pG aT);refine⟨⟨k+1,by omega,rfl,IE HT.out (IE (Rq ((vQ _ wr).alloc (bQ _) _)) CF.out.grown),?_⟩,by simp[intOf];omega⟩;rw[cT.out,List.take_add_one,aQ aa,List.flatMap_append,QF];simp
  ·have:k=xs.length:=by omega
   subst this;have HT:=jq ht;have HC:=jq lM;clear ht lM;go_wp2_with fail;go_end0;exact⟨rfl,HT.out,by simpa using HC.out⟩
def L8(e:Nat->Value)(p:Nat)(v:Value)(i:Nat):Value:=if i=p then v else e i
section
variable {P:Program} {ops:Array Oper} {Q:Exit->Act->World->Prop}
structure InvS(ops:Array Oper)(ord T:List Nat)(p0 m:Nat)(dep:Nat->List Nat)(dst:Nat->Nat):Prop where
 well:∀ (i:Nat) (o:Oper),ops[i]?=some o->∀ e∈o.after,e.on<i
 p0s:p0<ops.size
 p0o:p0∉ord
 last:AT ops p0=true
 all:∀ i,i<ops.size->i=p0\/i∈ord
 tord:∀ p∈T,p∈ord/\dep p = [p]
 depT:∀ i∈ord,∀ j∈dep i,j∈T
 size:∀ i∈ord,i<ops.size
 qdst:∀ i∈ord,i∉T->∃ o,ops[i]?=some o/\o.dst=some (dst i)
 qon:∀ i∈ord,i∉T->∀ o,ops[i]?=some o->∀ j∈dep i,∃ e∈o.after,Region.binds .any e=true/\j∈dep e.on/\e.on<ops.size
 qall:∀ i∈ord,i∉T->∀ o,ops[i]?=some o->∀ e∈o.after,Region.binds .any e=true->e.on∈ord/\∀ j∈dep e.on,j∈dep i
 p0on:∀ o,ops[p0]?=some o->∀ j∈T,∃ e∈o.after,Region.binds .any e=true/\j∈dep e.on/\e.on<ops.size
 lt:∀ i∈ord,dst i<m
 inj:∀ i∈ord,∀ j∈ord,j≠i->dst i≠dst j
end
def Np.tH(s:ByteArray):List Int:=s.data.toList.map λc=>(c.toNat:Int)
def Np.sum(bs:List Int)(z:ByteArray)(n a f u:Int):Int:=Np.dig (Np.dig (Np.dig (Np.dig 14695981039346656037 bs) [(z.size:Int)]) (Np.tH z)) ([n,a,f,u].flatMap λn=>(List.range 8).map (Np.qz n))
theorem PC(w:World)(o1 o2:Obj):((w.alloc o1).alloc o2).heap[w.heap.size+1]?=some o2:=by
 have:=World.alloc_heap_new (w.alloc o1) o2
 rwa [World.size_alloc] at this
theorem PZ(w:World)(b g:Nat)(hg:g=w.heap.size)(hb:b<w.heap.size)(bs:List Int)(t:TypeId)(hl:bs.length<=140737488355328):mb (w.alloc (.cells (bs.map (Value.int .u8)).toArray t)) b (.slice (some ⟨g,0,none⟩) bs.length bs.length) bs:=by
 subst hg;refine⟨_,_,rfl,hl,bQ _,λi x hx=>⟨w.heap.size,0,rfl,by omega,by simp,?_⟩⟩;unfold World.cell?;simp only[World.alloc_heap_new];simp[hx]
theorem P0(w:World)(b g:Nat)(hg:g=w.heap.size)(hb:b<w.heap.size)(z:ByteArray)(t:TypeId)(hl:z.size<=255):mb (Lib.bytesWorld w t z) b (.slice (some ⟨g,0,none⟩) z.size (grownCap w z.size 0 t)) (Np.tH z):=by
 subst hg;have hlen:(Np.tH z).length=z.size:=by simp[Np.tH]
 refine⟨_,grownCap w z.size 0 t,by rw[hlen],by omega,by rw[hlen];exact grownCap_ge _ _ _ _,λi x hx=>⟨w.heap.size,0,rfl,by omega,by rw[Lib.bytesWorld_size];omega,?_⟩⟩;have hi:i<z.size:=by have:=(cQ.1 hx).1;omega
 rw[show (0+i)=i by omega,Lib.bytesWorld_cell _ _ _ _ hi];simp[Np.tH] at hx;obtain⟨c,hc,rfl⟩:=hx;simp[List.getD,hc]
theorem Uk(w:World)(g:Nat)(hg:g=w.heap.size)(xs:List Int)(t:TypeId):∀ i x,xs[i]?=some x->(w.alloc (.cells (xs.map (Value.int .i64)).toArray t)).cell? ⟨g,i,none⟩=some (.int .i64 x):=by
 subst hg;intro i x hx;unfold World.cell?;simp only[World.alloc_heap_new];simp[hx]
theorem PU{b n:Nat}{w w':World}(h:w.grownBy w' (some b))(hn:n<=b)(hs:n<=w.heap.size):Below n w w':=⟨h.os,h.tape,h.output,h.size,λi hi=>h.block i (by omega) (λe=>by simp at e;omega)⟩
theorem mb.grow{w w':World}{b b':Nat}{v:Value}{bs:List Int}(h:mb w b v bs)(hb:Below w.heap.size w w')(hb':w.heap.size<=b'):mb w' b' v bs:=by
 obtain⟨A,c,hv,h1,h2,h3⟩:=h;refine⟨A,c,hv,h1,h2,λi x hx=>?_⟩;obtain⟨k,o,hA,hk,hk',hce⟩:=h3 i x hx;exact⟨k,o,hA,by omega,lQ hk' hb.size,(hb.cell hk').trans hce⟩
theorem Xt(v:Value)(bs:List Int)(z:ByteArray)(hz:z.size<=255)(n al f u:Int)(w:World)(hv:mb w w.heap.size v bs) :
 Calls prog 244 #[v,.string z,.agg #[.int .i64 n,.int .i64 al],.int .i64 f,.int .i64 u] w (agQ w.heap.size w (.int .u64 (Np.sum bs z n al f u))):=by
 have HV:=jq hv;obtain⟨A,cap,rfl,_⟩:=hv;have hcv:∀ W,(convert 9 196 (.string z)).run prog W = .ok (.slice (some ⟨W.heap.size,0,none⟩) z.size (grownCap W z.size 0 5)) (Lib.bytesWorld W 5 z):=λW=>Lib.run_convert_string_bytes W _ _ _ z underlying9 underlying196 underlying5;have hcs:∀ W,(Lib.bytesWorld W 5 z).heap.size=W.heap.size+1:=λW=>Lib.bytesWorld_size _ _ _;go_enter func244,ntmps244;go_wp2_with (first
  | (go_at_call 318;have hv:=HV.out;clear HV;refine (yU (w.heap.size+1) _ _ bs _ 346 (PC w _ _) (hv.grow (((vQ _ w).alloc (bQ _) _).alloc (by simp) _) (by omega))).mono ?_;rintro e w1 ⟨rfl,pG,aT⟩;have aN:=pG.size;simp only[World.size_alloc] at aN;have k0:w1.cell? ⟨w.heap.size,0,none⟩=some (.int .i64 n):=by { rw[pG.cell (by simp)];go_simp };have k1:w1.cell? ⟨w.heap.size,1,none⟩=some (.int .i64 al):=by { rw[pG.cell (by simp)];go_simp };have CF:=jq pG;have cT:=jq aT;clear pG aT hv)
  | (go_at_call 318;have aT:=cT.out;clear cT;refine (yU (w.heap.size+1) _ _ [(z.size:Int)] _ 346 ((@heap_alloc_old _ _ _ (by omega)).trans aT) (PZ w1 (w.heap.size+1) (w.heap.size+1+1) aN.symm (by omega) [(z.size:Int)] 5 (by simp))).mono ?_;rintro e w2 ⟨rfl,mG,dZ⟩;have fj:=mG.size;simp only[World.size_alloc] at fj;have k02:w2.cell? ⟨w.heap.size,0,none⟩=some (.int .i64 n):=by { rw[mG.cell (by simp)];go_simp };have k12:w2.cell? ⟨w.heap.size,1,none⟩=some (.int .i64 al):=by { rw[mG.cell (by simp)];go_simp };have gS:=jq mG;have de:=jq dZ;clear mG dZ aT)
  | (go_at_call 318;have dZ:=de.out;clear de;refine (yU (w.heap.size+1) _ _ (Np.tH z) _ 346 ((Lib.bytesWorld_at_old _ _ _ _ (by omega)).trans dZ) (P0 w2 (w.heap.size+1) _ (by omega) (by omega) z 5 (by omega))).mono ?_;rintro e w3 ⟨rfl,wG,lL⟩;have bM:=wG.size;simp only[Lib.bytesWorld_size] at bM;have k03:w3.cell? ⟨w.heap.size,0,none⟩=some (.int .i64 n):=by { rw[wG.cell (by simp),Lib.bytesWorld_old _ _ _ _ (by simp;omega)];exact k02 };have k13:w3.cell? ⟨w.heap.size,1,none⟩=some (.int .i64 al):=by { rw[wG.cell (by simp),Lib.bytesWorld_old _ _ _ _ (by simp;omega)];exact k12 };have qm:=jq wG;have mf:=jq lL;clear wG lL dZ)
  | (go_at_call 317;have lL:=mf.out;clear mf;refine (VC (w.heap.size+1) _ [n,al,f,u] _ 346 ((@heap_alloc_old _ _ _ (by omega)).trans lL) (w.heap.size+1+1+1+1) (Uk w3 _ (by omega) [n,al,f,u] 3) (by omega) (by simp;omega) (by simp)).mono ?_;rintro e w4 ⟨rfl,Ev,qJ⟩;have sZ:=Ev.size;simp only[World.size_alloc] at sZ;have d4:w4.cell? ⟨w.heap.size+1,0,none⟩=some (.int .u64 (Np.sum bs z n al f u)):=by { unfold World.cell?;rw[qJ];rfl };have CG:=jq Ev;clear Ev qJ lL))
 go_ret;refine⟨rfl,?_⟩;have b1:Below w.heap.size w w1:=(((vQ _ w).alloc (bQ _) _).alloc (by simp) _).trans (CF.out.below (by omega));have b2:Below w.heap.size w w2:=(b1.alloc b1.size _).trans (gS.out.below (by omega));have b3:Below w.heap.size w w3:=(b2.trans (PR w2 _ z b2.size)).trans (qm.out.below (by omega));exact (b3.alloc b3.size _).trans (PU CG.out (by omega) (by simp;omega))
end
namespace Np
def aH(l:List Span):List Int:=l.flatMap λs=>[s.frm,s.til]
def mrg:List Int->List Int->Bool->Bool->List (Int×Bool×Bool)
 | [],[],_,_=>[]
 | x::xs,[],p,q=>(x,!p,q)::mrg xs [] (!p) q
 | [],y::ys,p,q=>(y,p,!q)::mrg [] ys p (!q)
 | x::xs,y::ys,p,q=>if x<y then (x,!p,q)::mrg xs (y::ys) (!p) q else if y<x then (y,p,!q)::mrg (x::xs) ys p (!q) else (x,!p,!q)::mrg xs ys (!p) (!q)
termination_by xs ys=>xs.length+ys.length
def ea(o:List Span×Int)(e:Int×Bool×Bool):List Span×Int:=
 if e.2.1&&!e.2.2 then (if o.2<0 then (o.1,e.1) else o) else (if 0<=o.2 then (o.1 ++ [⟨o.2,e.1⟩],-1) else o)
def ot(a b:List Span):List Span:=((mrg (aH a) (aH b) false false).foldl ea ([],-1)).1
def inF:List Int->Bool->Int->Bool
 | [],p,_=>p
 | x::xs,p,t=>if t<x then p else inF xs (!p) t
def oO(t0:Int):List Int->Prop
 | []=>True
 | x::xs=>t0<x/\oO x xs
def tx:List Int->Bool->Bool
 | [],p=>p
 | _::xs,p=>tx xs (!p)
theorem oO.weak{t0 t1:Int} : ∀ {l:List Int},oO t1 l->t0<=t1->oO t0 l
 | [],_,_=>trivial
 | _::_,h,ht=>⟨Int.lt_of_le_of_lt ht h.1,h.2⟩
theorem Uc{p:Bool} : ∀ {l:List Int} {t0 t:Int},oO t0 l->t<=t0->inF l p t=p
 | [],_,_,_,_=>rfl
 | x::xs,t0,t,h,ht=>by rw[inF,Qb (by have:=h.1;omega)]
theorem pL{p:Bool}{x:Int}{xs:List Int}{t:Int}(h:x<=t):inF (x::xs) p t=inF xs (!p) t:=by rw[inF,Qc (by omega)]
theorem mJ{p:Bool}{x:Int}{xs:List Int}{t:Int}(h:t<x):inF (x::xs) p t=p:=by rw[inF,Qb h]
structure SwOk(o:List Span×Int)(t0:Int)(p q:Bool):Prop where
 ap:ApartS o.1
 til:∀ s∈o.1,s.til<=t0
 lt:0<=o.2->∀ s∈o.1,s.til<o.2
 none:o.2<0->o.2 = -1
 opens:0<=o.2↔(p&&!q)=true
 le:o.2<=t0
theorem yW{l:List Span}{s:Span}(h:ApartS l)(hs:s.frm<s.til)(hl:∀ x∈l,x.til<s.frm):ApartS (l ++ [s]):=by
 refine⟨λx hx=>?_,List.pairwise_append.2 ⟨h.apart,List.pairwise_singleton _ _,λx hx y hy=>?_⟩⟩
 ·rcases List.mem_append.1 hx with hx | hx
  ·exact h.full x hx
  ·rw[List.mem_singleton] at hx;subst hx;exact hs
 ·rw[List.mem_singleton] at hy;subst hy;exact hl x hx
theorem xb{s:Span}{t:Int} : inS [s] t↔s.frm<=t/\t<s.til:=⟨λ⟨x,hx,h⟩=>by rw[List.mem_singleton] at hx;subst hx;exact h,λh=>⟨s,by simp,h⟩⟩
theorem xH{o:List Span×Int}{t0 t:Int}{p q p' q':Bool}(h:SwOk o t0 p q)(ht:t0<t)(h0:0<=t):SwOk (ea o (t,p',q')) t p' q'/\
 ∀ u,(inS (ea o (t,p',q')).1 u\/(0<=(ea o (t,p',q')).2/\(ea o (t,p',q')).2<=u/\u<t))↔(inS o.1 u\/(0<=o.2/\o.2<=u/\u<t)):=by
 obtain⟨out,f⟩:=o;obtain⟨h1,h2,h3,h4,h5,h6⟩:=h;simp only at h1 h2 h3 h4 h5 h6 |-;unfold ea;simp only;by_cases hn:(p'&&!q')=true
 ·rw[Qb hn];by_cases hf:f<0
  ·rw[Qb hf];exact⟨⟨h1,λs hs=>by have:=h2 s hs;omega,λ_ s hs=>by have:=h2 s hs;show s.til<t;omega,λhx=>by exfalso;have hx:t<0:=hx;omega,⟨λ_=>hn,λ_=>h0⟩,Int.le_refl _⟩,λu=>by simp only;constructor <;> (rintro (h | h) <;> first | exact .inl h | (exfalso;omega))⟩
  ·rw[Qc hf];exact⟨⟨h1,λs hs=>by have:=h2 s hs;omega,h3,h4,⟨λ_=>hn,λ_=>by show 0<=f;omega⟩,by show f<=t;omega⟩,λu=>Iff.rfl⟩
 ·rw[Qc hn];by_cases hf:0<=f
  ·rw[Qb hf];refine⟨⟨yW h1 (by simp only;omega) (λs hs=>h3 hf s hs),λs hs=>?_,λhx=>by simp only at hx;omega,λ_=>rfl,⟨λhx=>by simp only at hx;omega,λhx=>absurd hx hn⟩,by simp only;omega⟩,λu=>?_⟩
   ·rcases List.mem_append.1 hs with hs | hs
    ·have:=h2 s hs;omega
    ·rw[List.mem_singleton] at hs;subst hs;exact Int.le_refl _
   ·simp only[rk,xb];constructor
    ·rintro ((h | h) | h)
     ·exact .inl h
     ·exact .inr ⟨hf,h⟩
     ·omega
    ·rintro (h | h)
     ·exact .inl (.inl h)
     ·exact .inl (.inr h.2)
  ·rw[Qc hf];exact⟨⟨h1,λs hs=>by have:=h2 s hs;omega,h3,h4,⟨λhx=>absurd hx hf,λhx=>absurd hx hn⟩,by simp only;omega⟩,λu=>Iff.rfl⟩
def r9(o:List Span×Int)(t0:Int)(xs ys:List Int)(p q:Bool)(u:Int):Prop:=inS o.1 u\/(0<=o.2/\o.2<=u/\u<t0)\/(t0<=u/\inF xs p u=true/\inF ys q u=false)
theorem xe{o o':List Span×Int}{t0 t:Int}{xs ys xs' ys':List Int}{p q p' q':Bool}(hk:SwOk o t0 p q)(ht:t0<t)
 (hx:∀ u,t0<=u->u<t->inF xs p u=p/\inF ys q u=q) (hx':∀ u,t<=u->inF xs p u=inF xs' p' u/\inF ys q u=inF ys' q' u)
 (hs:∀ u,(inS o'.1 u\/(0<=o'.2/\o'.2<=u/\u<t))↔(inS o.1 u\/(0<=o.2/\o.2<=u/\u<t))) (u:Int):r9 o' t xs' ys' p' q' u↔r9 o t0 xs ys p q u:=by
 have ho:=hk.opens;have fJ:=hk.le;have key:(inS o.1 u\/(0<=o.2/\o.2<=u/\u<t))↔(inS o.1 u\/(0<=o.2/\o.2<=u/\u<t0)\/(t0<=u/\u<t/\(p&&!q)=true)):=by
  constructor
  ·rintro (h | ⟨h1,h2,h3⟩)
   ·exact .inl h
   ·by_cases hu:u<t0
    ·exact .inr (.inl ⟨h1,h2,hu⟩)
    ·exact .inr (.inr ⟨by omega,h3,ho.1 h1⟩)
  ·rintro (h | ⟨h1,h2,h3⟩ | ⟨h1,h2,h3⟩)
   ·exact .inl h
   ·exact .inr ⟨h1,h2,by omega⟩
   ·exact .inr ⟨ho.2 h3,by omega,h2⟩
 unfold r9;rw[<-or_assoc,hs u,key];constructor
 ·rintro ((h | h | ⟨h1,h2,h3⟩) | ⟨h1,h2,h3⟩)
  ·exact .inl h
  ·exact .inr (.inl h)
  ·obtain⟨e1,e2⟩:=hx u h1 h2;simp only[Bool.and_eq_true,Bool.not_eq_true'] at h3;exact .inr (.inr ⟨h1,by rw[e1];exact h3.1,by rw[e2];exact h3.2⟩)
  ·obtain⟨e1,e2⟩:=hx' u h1;exact .inr (.inr ⟨by omega,by rw[e1];exact h2,by rw[e2];exact h3⟩)
 ·rintro (h | h | ⟨h1,h2,h3⟩)
  ·exact .inl (.inl h)
  ·exact .inl (.inr (.inl h))
  ·by_cases hu:u<t
   ·obtain⟨e1,e2⟩:=hx u h1 hu;rw[e1] at h2;rw[e2] at h3;exact .inl (.inr (.inr ⟨h1,hu,by rw[h2,h3];rfl⟩))
   ·obtain⟨e1,e2⟩:=hx' u (by omega);rw[e1] at h2;rw[e2] at h3;exact .inr ⟨by omega,h2,h3⟩
theorem Xw:∀ (n:Nat) (xs ys:List Int) (p q:Bool) (o:List Span×Int) (t0:Int),xs.length+ys.length<=n->-1<=t0->oO t0 xs->oO t0 ys->SwOk o t0 p q->
 ∃ t1,SwOk ((mrg xs ys p q).foldl ea o) t1 (tx xs p) (tx ys q)/\∀ u,(inS ((mrg xs ys p q).foldl ea o).1 u\/(0<=((mrg xs ys p q).foldl ea o).2/\((mrg xs ys p q).foldl ea o).2<=u))↔r9 o t0 xs ys p q u:=by
 intro n
 induction n with
 | zero=>
  intro xs ys p q o t0 hn ht hx hy hk;obtain rfl:xs = []:=rQ (by omega);obtain rfl:ys = []:=rQ (by omega);rw[mrg];refine⟨t0,hk,λu=>?_⟩;simp only[List.foldl_nil,r9,inF];have ho:=hk.opens;have fJ:=hk.le;constructor
  ·rintro (h | ⟨h1,h2⟩)
   ·exact .inl h
   ·by_cases hu:u<t0
    ·exact .inr (.inl ⟨h1,h2,hu⟩)
    ·have:=ho.1 h1
     simp only[Bool.and_eq_true,Bool.not_eq_true'] at this;exact .inr (.inr ⟨by omega,this.1,this.2⟩)
  ·rintro (h | ⟨h1,h2,h3⟩ | ⟨h1,h2,h3⟩)
   ·exact .inl h
   ·exact .inr ⟨h1,h2⟩
   ·have h4:=ho.2 (by rw[h2,h3];rfl);exact .inr ⟨h4,by omega⟩
 | succ n ih=>
  intro xs ys p q o t0 hn ht hx hy hk
  match xs,ys,hn,hx,hy with
  | [],[],hn,hx,hy=>exact ih [] [] p q o t0 (by simp) ht trivial trivial hk
  | x::xs,[],hn,hx,hy=>
   rw[mrg,List.foldl_cons];obtain⟨h1,h2⟩:=xH (p':=!p) (q':=q) hk hx.1 (by have:=hx.1;omega);obtain⟨t1,k1,k2⟩:=ih xs [] (!p) q _ x (by simp only[List.length_cons,List.length_nil] at hn |-;omega) (by have:=hx.1;omega) hx.2 trivial h1;refine⟨t1,k1,λu=>(k2 u).trans (xe hk hx.1 (λu _ hu=>⟨mJ hu,rfl⟩) (λu hu=>⟨pL hu,rfl⟩) h2 u)⟩
  | [],y::ys,hn,hx,hy=>
   rw[mrg,List.foldl_cons];obtain⟨h1,h2⟩:=xH (p':=p) (q':=!q) hk hy.1 (by have:=hy.1;omega);obtain⟨t1,k1,k2⟩:=ih [] ys p (!q) _ y (by simp only[List.length_cons,List.length_nil] at hn |-;omega) (by have:=hy.1;omega) trivial hy.2 h1;refine⟨t1,k1,λu=>(k2 u).trans (xe hk hy.1 (λu _ hu=>⟨rfl,mJ hu⟩) (λu hu=>⟨rfl,pL hu⟩) h2 u)⟩
  | x::xs,y::ys,hn,hx,hy=>
   rw[mrg];by_cases ep:x<y
   ·rw[Qb ep,List.foldl_cons];obtain⟨h1,h2⟩:=xH (p':=!p) (q':=q) hk hx.1 (by have:=hx.1;omega);obtain⟨t1,k1,k2⟩:=ih xs (y::ys) (!p) q _ x (by simp only[List.length_cons] at hn |-;omega) (by have:=hx.1;omega) hx.2 ⟨ep,hy.2⟩ h1;refine⟨t1,k1,λu=>(k2 u).trans (xe hk hx.1 (λu _ hu=>⟨mJ hu,mJ (by omega)⟩) (λu hu=>⟨pL hu,rfl⟩) h2 u)⟩
   ·rw[Qc ep];by_cases EJ:y<x
    ·rw[Qb EJ,List.foldl_cons];obtain⟨h1,h2⟩:=xH (p':=p) (q':=!q) hk hy.1 (by have:=hy.1;omega);obtain⟨t1,k1,k2⟩:=ih (x::xs) ys p (!q) _ y (by simp only[List.length_cons] at hn |-;omega) (by have:=hy.1;omega) ⟨EJ,hx.2⟩ hy.2 h1;refine⟨t1,k1,λu=>(k2 u).trans (xe hk hy.1 (λu _ hu=>⟨mJ (by omega),mJ hu⟩) (λu hu=>⟨rfl,pL hu⟩) h2 u)⟩
    ·rw[Qc EJ,List.foldl_cons];obtain rfl:x=y:=by omega
     obtain⟨h1,h2⟩:=xH (p':=!p) (q':=!q) hk hx.1 (by have:=hx.1;omega);obtain⟨t1,k1,k2⟩:=ih xs ys (!p) (!q) _ x (by simp only[List.length_cons] at hn |-;omega) (by have:=hx.1;omega) hx.2 hy.2 h1;refine⟨t1,k1,λu=>(k2 u).trans (xe hk hx.1 (λu _ hu=>⟨mJ hu,mJ hu⟩) (λu hu=>⟨pL hu,pL hu⟩) h2 u)⟩
structure SpV(l:List Span):Prop where
 ap:ApartS l
 lo:∀ s∈l,0<=s.frm
 hi:∀ s∈l,s.til<=20000000
theorem SpV.tail{s:Span}{l:List Span}(h:SpV (s::l)):SpV l:=⟨h.ap.tail,λx hx=>h.lo x (mQ _ hx),λx hx=>h.hi x (mQ _ hx)⟩
theorem zp:∀ {l:List Span} {t0:Int},ApartS l->(∀ s∈l,t0<s.frm)->oO t0 (aH l)
 | [],_,_,_=>trivial
 | s::l,t0,h,h0=>⟨h0 s (by simp),h.full s (by simp),zp h.tail (λx hx=>(List.pairwise_cons.1 h.apart).1 x hx)⟩
theorem zm:∀ {l:List Span},ApartS l->∀ u,inF (aH l) false u=true↔inS l u
 | [],_,u=>⟨λh=>(by cases h),λh=>absurd h (gJ u)⟩
 | s::l,h,u=>by
   have hf:=h.full s (by simp);rw[gi,<-zm h.tail u,show aH (s::l)=s.frm::s.til::aH l from rfl];by_cases h1:u<s.frm
   ·rw[mJ h1];have h2:inF (aH l) false u=false:=Uc (zp h.tail (t0:=s.til) (λx hx=>(List.pairwise_cons.1 h.apart).1 x hx)) (by omega);rw[h2];constructor
    ·intro h;cases h
    ·rintro (h | h)
     ·omega
     ·cases h
   ·rw[pL (by omega)];by_cases h2:u<s.til
    ·rw[mJ h2];exact⟨λ_=>.inl ⟨by omega,h2⟩,λ_=>rfl⟩
    ·rw[pL (by omega)];constructor
     ·intro h;exact .inr h
     ·rintro (h | h)
      ·omega
      ·exact h
theorem Dj:∀ (l:List Span) (p:Bool),tx (aH l) p=p
 | [],_=>rfl
 | s::l,p=>by
   rw[show aH (s::l)=s.frm::s.til::aH l from rfl,tx,tx,Dj l,Bool.not_not]
theorem Fc{a b:List Span}(ha:SpV a)(hb:SpV b):((mrg (aH a) (aH b) false false).foldl ea ([],-1)).2 = -1/\ApartS (ot a b)/\∀ u,inS (ot a b) u↔inS a u/\¬ inS b u:=by
 have hk:SwOk ([],-1) (-1) false false:=⟨ApartS.nil,λs hs=>(by cases hs),λh=>(by simp at h),λ_=>rfl,(by simp),Int.le_refl _⟩;obtain⟨t1,h1,h2⟩:=Xw _ (aH a) (aH b) false false ([],-1) (-1) (bQ _) (Int.le_refl _) (zp ha.ap (λs hs=>by have:=ha.lo s hs;omega)) (zp hb.ap (λs hs=>by have:=hb.lo s hs;omega)) hk;rw[Dj,Dj] at h1;have h0:((mrg (aH a) (aH b) false false).foldl ea ([],-1)).2<0:=by
  refine Decidable.byContradiction λhn=>?_
  have:=h1.opens.1 (by omega)
  cases this
 refine⟨h1.none h0,h1.ap,λu=>?_⟩
 have:=h2 u
 unfold ot;rw[<-zm ha.ap,<-zm hb.ap,Bool.not_eq_true];unfold r9 at this;constructor
 ·intro h;rcases this.1 (.inl h) with h | h | h
  ·exact absurd h (gJ u)
  ·exfalso;have:=h.1;simp at this
  ·exact h.2
 ·intro h;rcases this.2 (.inr (.inr ⟨by
   have h3:=(zm ha.ap u).1 h.1;obtain⟨s,hs,h4,_⟩:=h3
   have:=ha.lo s hs
   omega,h⟩)) with h | h
  ·exact h
  ·omega
def kF(x:Span)(b o:List Span):List Span:=b.foldl (λo y=>if max x.frm y.frm<min x.til y.til then o ++ [⟨max x.frm y.frm,min x.til y.til⟩] else o) o
def Hp(a b:List Span):List Span:=a.foldl (λo x=>kF x b o) []
def gM(p:List Span×Int)(s:Span):List Span×Int:=(if p.2<s.frm then p.1 ++ [⟨p.2,s.frm⟩] else p.1,s.til)
def pM(l:List Span):List Span:=if (l.foldl gM ([],0)).2<20000000 then (l.foldl gM ([],0)).1 ++ [⟨(l.foldl gM ([],0)).2,20000000⟩] else (l.foldl gM ([],0)).1
theorem C9{x:Span}(hx:x.frm<x.til):∀ (b o:List Span),ApartS b->ApartS o->(∀ s∈o,(∀ y∈b,s.til<max x.frm y.frm))->ApartS (kF x b o)/\(∀ u,inS (kF x b o) u↔inS o u\/(x.frm<=u/\u<x.til/\inS b u))/\∀ s∈kF x b o,s∈o\/s.til<=x.til
 | [],o,_,ho,_=>⟨ho,λu=>⟨.inl,λh=>h.elim id λh=>absurd h.2.2 (gJ u)⟩,λs hs=>.inl hs⟩
 | y::b,o,hb,ho,hl=>by
   have hy:=hb.full y (by simp);unfold kF;rw[List.foldl_cons];by_cases hm:max x.frm y.frm<min x.til y.til
   ·rw[Qb hm];obtain⟨h1,h2,h3⟩:=C9 hx b (o ++ [⟨max x.frm y.frm,min x.til y.til⟩]) hb.tail (yW ho hm (λs hs=>hl s hs y (by simp))) (λs hs z hz=>by
     rcases List.mem_append.1 hs with hs | hs
     ·exact hl s hs z (mQ _ hz)
     ·rw[List.mem_singleton] at hs;subst hs
      have:=(List.pairwise_cons.1 hb.apart).1 z hz
      simp only;omega)
    unfold kF at h1 h2 h3;refine⟨h1,λu=>?_,λs hs=>?_⟩
    ·rw[h2,rk,xb,gi];simp only;constructor
     ·rintro ((h | h) | h)
      ·exact .inl h
      ·exact .inr ⟨by omega,by omega,.inl (by omega)⟩
      ·exact .inr ⟨h.1,h.2.1,.inr h.2.2⟩
     ·rintro (h | ⟨h1,h2,h | h⟩)
      ·exact .inl (.inl h)
      ·exact .inl (.inr (by omega))
      ·exact .inr ⟨h1,h2,h⟩
    ·rcases h3 s hs with h | h
     ·rcases List.mem_append.1 h with h | h
      ·exact .inl h
      ·rw[List.mem_singleton] at h;subst h;exact .inr (by simp only;omega)
     ·exact .inr h
   ·rw[Qc hm];obtain⟨h1,h2,h3⟩:=C9 hx b o hb.tail ho (λs hs z hz=>hl s hs z (mQ _ hz));unfold kF at h1 h2 h3;refine⟨h1,λu=>?_,h3⟩;rw[h2,gi];constructor
    ·rintro (h | h)
     ·exact .inl h
     ·exact .inr ⟨h.1,h.2.1,.inr h.2.2⟩
    ·rintro (h | ⟨h1,h2,h | h⟩)
     ·exact .inl h
     ·omega
     ·exact .inr ⟨h1,h2,h⟩
theorem Hr{b:List Span}(hb:ApartS b):∀ (a o:List Span),ApartS a->ApartS o->(∀ s∈o,∀ x∈a,s.til<x.frm)->ApartS (a.foldl (λo x=>kF x b o) o)/\∀ u,inS (a.foldl (λo x=>kF x b o) o) u↔inS o u\/(inS a u/\inS b u)
 | [],o,_,ho,_=>⟨ho,λu=>⟨.inl,λh=>h.elim id λh=>absurd h.1 (gJ u)⟩⟩
 | x::a,o,ha,ho,hl=>by
   rw[List.foldl_cons];obtain⟨h1,h2,h3⟩:=C9 (ha.full x (by simp)) b o hb ho (λs hs y _=>by have:=hl s hs x (by simp);omega);obtain⟨k1,k2⟩:=Hr hb a _ ha.tail h1 (λs hs z hz=>by
    rcases h3 s hs with h | h
    ·exact hl s h z (mQ _ hz)
    ·have:=(List.pairwise_cons.1 ha.apart).1 z hz;omega)
   refine⟨k1,λu=>?_⟩;rw[k2,h2,gi];constructor
   ·rintro ((h | h) | h)
    ·exact .inl h
    ·exact .inr ⟨.inl ⟨h.1,h.2.1⟩,h.2.2⟩
    ·exact .inr ⟨.inr h.1,h.2⟩
   ·rintro (h | ⟨h | h,h'⟩)
    ·exact .inl (.inl h)
    ·exact .inl (.inr ⟨h.1,h.2,h'⟩)
    ·exact .inr ⟨h,h'⟩
theorem EU:∀ (l o:List Span) (at':Int),SpV l->ApartS o->(∀ s∈o,s.til<=at')->(o≠[]->∀ s∈o,s.til<at')->(∀ s∈l,at'<=s.frm)->at'<=20000000->
 ApartS (l.foldl gM (o,at')).1/\(∀ s∈(l.foldl gM (o,at')).1,s.til<(l.foldl gM (o,at')).2)/\at'<=(l.foldl gM (o,at')).2/\(l.foldl gM (o,at')).2<=20000000/\
 ∀ u,(inS (l.foldl gM (o,at')).1 u\/(l.foldl gM (o,at')).2<=u)↔(inS o u\/(at'<=u/\¬ inS l u))
 | [],o,at',_,ho,_,h2,_,hat=>⟨ho,λs hs=>h2 (λe=>by rw[e] at hs;cases hs) s hs,Int.le_refl _,hat,λu=>by
  constructor
  ·rintro (h | h)
   ·exact .inl h
   ·exact .inr ⟨h,gJ u⟩
  ·rintro (h | h)
   ·exact .inl h
   ·exact .inr h.1⟩
 | s::l,o,at',hl,ho,h1,h2,h3,hat=>by
   rw[List.foldl_cons];have hf:=hl.ap.full s (by simp);have hs:=h3 s (by simp);have eE:=(List.pairwise_cons.1 hl.ap.apart).1;have mA:=hl.hi s (by simp);unfold gM;simp only;by_cases aa:at'<s.frm
   ·rw[Qb aa];obtain⟨k1,k2,k3,k4,k5⟩:=EU l (o ++ [⟨at',s.frm⟩]) s.til hl.tail (yW ho aa (λx hx=>h2 (λe=>by rw[e] at hx;cases hx) x hx)) (λx hx=>by
     rcases List.mem_append.1 hx with hx | hx
     ·have:=h1 x hx;omega
     ·rw[List.mem_singleton] at hx;subst hx;simp only;omega) (λ_ x hx=>by
     rcases List.mem_append.1 hx with hx | hx
     ·have:=h1 x hx;omega
     ·rw[List.mem_singleton] at hx;subst hx;simp only;omega) (λx hx=>by have:=eE x hx;omega) mA
    unfold gM at k1 k2 k3 k4 k5;refine⟨k1,k2,by omega,k4,λu=>?_⟩;rw[k5,rk,xb,gi];simp only;constructor
    ·rintro ((h | h) | h)
     ·exact .inl h
     ·refine .inr ⟨h.1,?_⟩;rintro (h' | h')
      ·omega
      ·have:=hl.ap.above h';omega
     ·refine .inr ⟨by omega,?_⟩;rintro (h' | h')
      ·omega
      ·exact h.2 h'
    ·rintro (h | ⟨h4,h5⟩)
     ·exact .inl (.inl h)
     ·by_cases hu:u<s.frm
      ·exact .inl (.inr ⟨h4,hu⟩)
      ·exact .inr ⟨Decidable.byContradiction λhn=>h5 (.inl (by omega)),λh=>h5 (.inr h)⟩
   ·rw[Qc aa];obtain⟨k1,k2,k3,k4,k5⟩:=EU l o s.til hl.tail ho (λx hx=>by have:=h1 x hx;omega) (λ_ x hx=>by have:=h1 x hx;omega) (λx hx=>by have:=eE x hx;omega) mA;unfold gM at k1 k2 k3 k4 k5;refine⟨k1,k2,by omega,k4,λu=>?_⟩;rw[k5,gi];constructor
    ·rintro (h | h)
     ·exact .inl h
     ·refine .inr ⟨by omega,?_⟩;rintro (h' | h')
      ·omega
      ·exact h.2 h'
    ·rintro (h | ⟨h4,h5⟩)
     ·exact .inl h
     ·exact .inr ⟨Decidable.byContradiction λhn=>h5 (.inl (by omega)),λh=>h5 (.inr h)⟩
theorem Vx{l:List Span}(hl:SpV l):ApartS (pM l)/\∀ u,0<=u->u<20000000->(inS (pM l) u↔¬ inS l u):=by
 obtain⟨k1,k2,k3,k4,k5⟩:=EU l [] 0 hl ApartS.nil (λs hs=>by cases hs) (λh=>absurd rfl h) (λs hs=>hl.lo s hs) (by omega);unfold pM;by_cases h:(l.foldl gM ([],0)).2<20000000
 ·rw[Qb h];refine⟨yW k1 h k2,λu h0 hu=>?_⟩;rw[rk,xb]
  have:=k5 u
  constructor
  ·rintro (h' | h')
   ·rcases this.1 (.inl h') with h | h
    ·exact absurd h (gJ u)
    ·exact h.2
   ·rcases this.1 (.inr h'.1) with h | h
    ·exact absurd h (gJ u)
    ·exact h.2
  ·intro h';rcases this.2 (.inr ⟨h0,h'⟩) with h | h
   ·exact .inl h
   ·exact .inr ⟨h,hu⟩
 ·rw[Qc h];refine⟨k1,λu h0 hu=>?_⟩
  have:=k5 u
  constructor
  ·intro h';rcases this.1 (.inl h') with h | h
   ·exact absurd h (gJ u)
   ·exact h.2
  ·intro h';rcases this.2 (.inr ⟨h0,h'⟩) with h | h
   ·exact h
   ·omega
theorem Xx{a b:List Span}(ha:SpV a)(hb:SpV b):ot a b=Hp a (pM b):=by
 obtain⟨_,h1,h2⟩:=Fc ha hb;obtain⟨n1,n2⟩:=Vx hb;obtain⟨k1,k2⟩:=Hr n1 a [] ha.ap ApartS.nil (λs hs=>by cases hs);refine C3 _ _ h1 k1 (λu=>?_);rw[h2];show _↔inS (a.foldl _ []) u;rw[k2];constructor
 ·rintro⟨h3,h4⟩;obtain⟨s,hs,h5,h6⟩:=h3;exact .inr ⟨⟨s,hs,h5,h6⟩,(n2 u (by have:=ha.lo s hs;omega) (by have:=ha.hi s hs;omega)).2 h4⟩
 ·rintro (h | ⟨h3,h4⟩)
  ·exact absurd h (gJ u)
  ·obtain⟨s,hs,h5,h6⟩:=h3;exact⟨⟨s,hs,h5,h6⟩,(n2 u (by have:=ha.lo s hs;omega) (by have:=ha.hi s hs;omega)).1 h4⟩
end Np
end Go.Proofs.YtfnopgdcaanaiaaGreatDoor
