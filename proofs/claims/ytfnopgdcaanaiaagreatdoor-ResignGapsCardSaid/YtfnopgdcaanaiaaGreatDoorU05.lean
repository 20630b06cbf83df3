/- Parts of the proof. No condition. -/
import Derived.Lib.ConvBytes
import Derived.WideMake
import Derived.Laws.AppendOwnNone
import Derived.Test.YtfnopgdcaanaiaaGreatDoorProg
import Derived.Test.YtfnopgdcaanaiaaGreatDoorU01
set_option linter.all false
set_option maxRecDepth 100000
set_option maxHeartbeats 8000000
namespace Go.Proofs.YtfnopgdcaanaiaaGreatDoor
open Go.Proofs.Tryz
namespace Np
def inS(l:List Span)(t:Int):Prop:=∃ s∈l,s.frm<=t/\t<s.til
structure ApartS(l:List Span):Prop where
 full:∀ s∈l,s.frm<s.til
 apart:l.Pairwise λa b=>a.til<b.frm
theorem ix(t:Int):¬ inS [] t:=λ⟨_,h,_⟩=>by cases h
theorem gY{a:Span}{l:List Span}{t:Int} : inS (a::l) t↔(a.frm<=t/\t<a.til)\/inS l t:=by
 constructor
 ·rintro⟨s,hs,h⟩;rcases List.mem_cons.1 hs with e | hs
  ·subst e;exact .inl h
  ·exact .inr ⟨s,hs,h⟩
 ·rintro (h | ⟨s,hs,h⟩)
  ·exact⟨a,by simp,h⟩
  ·exact⟨s,mQ _ hs,h⟩
theorem tS{a b:List Span}{t:Int} : inS (a++b) t↔inS a t\/inS b t:=by
 constructor
 ·rintro⟨s,hs,h⟩;rcases List.mem_append.1 hs with hs | hs
  ·exact .inl ⟨s,hs,h⟩
  ·exact .inr ⟨s,hs,h⟩
 ·rintro (⟨s,hs,h⟩ | ⟨s,hs,h⟩)
  ·exact⟨s,List.mem_append_left _ hs,h⟩
  ·exact⟨s,List.mem_append_right _ hs,h⟩
theorem ApartS.tail{a:Span}{l:List Span}(h:ApartS (a::l)):ApartS l:=⟨λs hs=>h.full s (mQ _ hs),(List.pairwise_cons.1 h.apart).2⟩
theorem ApartS.nil:ApartS []:=⟨λ_ h=>(by cases h),List.Pairwise.nil⟩
theorem ApartS.above{a:Span}{l:List Span}(h:ApartS (a::l)){t:Int}(ht:inS l t):a.til<t:=by
 obtain⟨s,hs,h1,_⟩:=ht
 have:=(List.pairwise_cons.1 h.apart).1 s hs
 omega
theorem ApartS.from{a:Span}{l:List Span}(h:ApartS (a::l)){t:Int}(ht:inS (a::l) t):a.frm<=t:=by
 rcases gY.1 ht with h1 | h1
 ·exact h1.1
 ·have h2:=h.above h1;have h3:=h.full a (by simp);omega
theorem EX:∀ (l m:List Span),ApartS l->ApartS m->(∀ t,inS l t↔inS m t)->l=m
 | [],[],_,_,_=>rfl
 | [],b::m,_,hm,h=>absurd ((h b.frm).2 ⟨b,by simp,Int.le_refl _,hm.full b (by simp)⟩) (ix _)
 | a::l,[],hl,_,h=>absurd ((h a.frm).1 ⟨a,by simp,Int.le_refl _,hl.full a (by simp)⟩) (ix _)
 | a::l,b::m,hl,hm,h=>by
   have fa:=hl.full a (by simp);have fb:=hm.full b (by simp);have e1:a.frm=b.frm:=by
    have h1:=hm.from ((h a.frm).1 ⟨a,by simp,Int.le_refl _,fa⟩);have h2:=hl.from ((h b.frm).2 ⟨b,by simp,Int.le_refl _,fb⟩);omega
   have e2:a.til=b.til:=by
    rcases Int.lt_trichotomy a.til b.til with aa | he | aa
    ·exfalso
     have:=(h a.til).2 (gY.2 (.inl ⟨by omega,aa⟩))
     rcases gY.1 this with h1 | h1
     ·omega
     ·have:=hl.above h1;omega
    ·exact he
    ·exfalso
     have:=(h b.til).1 (gY.2 (.inl ⟨by omega,aa⟩))
     rcases gY.1 this with h1 | h1
     ·omega
     ·have:=hm.above h1;omega
   have e:a=b:=by obtain⟨_,_⟩:=a;obtain⟨_,_⟩:=b;simp only at e1 e2;rw[e1,e2]
   subst e;rw[EX l m hl.tail hm.tail (λt=>by
    constructor
    ·intro ht;have h1:=hl.above ht;rcases gY.1 ((h t).1 (gY.2 (.inr ht))) with h2 | h2
     ·omega
     ·exact h2
    ·intro ht;have h1:=hm.above ht;rcases gY.1 ((h t).2 (gY.2 (.inr ht))) with h2 | h2
     ·omega
     ·exact h2)]
def fm(out:List Span)(s:Span):List Span:=
 match out.getLast? with
 | none=>[s]
 | some p=>if s.frm<=p.til then out.dropLast ++ [⟨p.frm,max p.til s.til⟩] else out ++ [s]
theorem Oo(s:Span):fm [] s = [s]:=rfl
theorem Hr(o:List Span)(p s:Span):fm (o ++ [p]) s=if s.frm<=p.til then o ++ [⟨p.frm,max p.til s.til⟩] else o ++ [p] ++ [s]:=by simp[fm]
theorem Zu{out:List Span}{s:Span}(ho:ApartS out)(hs:s.frm<s.til)(hf:∀ p∈out,p.frm<=s.frm):ApartS (fm out s)/\(∀ t,inS (fm out s) t↔inS out t\/(s.frm<=t/\t<s.til))/\∀ p∈fm out s,p.frm<=s.frm:=by
 rcases List.eq_nil_or_concat out with rfl | ⟨o,p,rfl⟩
 ·rw[Oo];refine⟨⟨λx hx=>?_,by simp⟩,λt=>?_,λx hx=>?_⟩
  ·rw[List.mem_singleton] at hx;subst hx;exact hs
  ·rw[gY];constructor
   ·rintro (h | h);exact .inr h;exact absurd h (ix t)
   ·rintro (h | h);exact absurd h (ix t);exact .inl h
  ·rw[List.mem_singleton] at hx;subst hx;exact Int.le_refl _
 ·rw[List.concat_eq_append] at ho hf |-;rw[Hr];have hp:=hf p (by simp);have vD:=ho.full p (by simp);obtain⟨a1,a2,a3⟩:=List.pairwise_append.1 ho.apart;split
  ·rename_i ee;have Gc:=Int.le_max_left p.til s.til;have gV:=Int.le_max_right p.til s.til;have hm3:max p.til s.til=p.til\/max p.til s.til=s.til:=by omega
   refine⟨⟨λx hx=>?_,?_⟩,λt=>?_,λx hx=>?_⟩
   ·rcases List.mem_append.1 hx with hx | hx
    ·exact ho.full x (List.mem_append_left _ hx)
    ·rw[List.mem_singleton] at hx;subst hx;dsimp only;omega
   ·refine List.pairwise_append.2 ⟨a1,by simp,λx hx y hy=>?_⟩;rw[List.mem_singleton] at hy;subst hy;exact a3 x hx p (by simp)
   ·rw[tS,tS,gY,gY];dsimp only;constructor
    ·rintro (h | h | h)
     ·exact .inl (.inl h)
     ·rcases Int.lt_or_le t p.til with h2 | h2
      ·exact .inl (.inr (.inl ⟨h.1,h2⟩))
      ·exact .inr ⟨by omega,by omega⟩
     ·exact absurd h (ix t)
    ·rintro ((h | h | h) | h)
     ·exact .inl h
     ·exact .inr (.inl ⟨h.1,by omega⟩)
     ·exact absurd h (ix t)
     ·exact .inr (.inl ⟨by omega,by omega⟩)
   ·rcases List.mem_append.1 hx with hx | hx
    ·exact hf x (List.mem_append_left _ hx)
    ·rw[List.mem_singleton] at hx;subst hx;exact hp
  ·rename_i ee;refine⟨⟨λx hx=>?_,?_⟩,λt=>?_,λx hx=>?_⟩
   ·rcases List.mem_append.1 hx with hx | hx
    ·exact ho.full x hx
    ·rw[List.mem_singleton] at hx;subst hx;exact hs
   ·refine List.pairwise_append.2 ⟨ho.apart,by simp,λx hx y hy=>?_⟩;rw[List.mem_singleton] at hy;subst hy;rcases List.mem_append.1 hx with hx | hx
    ·have:=a3 x hx p (by simp);omega
    ·rw[List.mem_singleton] at hx;subst hx;omega
   ·rw[tS,gY];constructor
    ·rintro (h | h | h)
     ·exact .inl h
     ·exact .inr h
     ·exact absurd h (ix t)
    ·rintro (h | h)
     ·exact .inl h
     ·exact .inr (.inl h)
   ·rcases List.mem_append.1 hx with hx | hx
    ·exact hf x hx
    ·rw[List.mem_singleton] at hx;subst hx;exact Int.le_refl _
theorem On:∀ (l out:List Span),ApartS out->(∀ s∈l,s.frm<s.til)->l.Pairwise (λa b=>a.frm<=b.frm)->(∀ p∈out,∀ s∈l,p.frm<=s.frm)->ApartS (l.foldl fm out)/\∀ t,inS (l.foldl fm out) t↔inS out t\/inS l t
 | [],out,ho,_,_,_=>⟨ho,λt=>⟨.inl,λh=>h.elim id (λh=>absurd h (ix t))⟩⟩
 | s::l,out,ho,hf,hs,hp=>by
   obtain⟨h1,h2,h3⟩:=Zu ho (hf s (by simp)) (λp Gg=>hp p Gg s (by simp));obtain⟨q1,q2⟩:=List.pairwise_cons.1 hs;obtain⟨h4,h5⟩:=On l (fm out s) h1 (λx hx=>hf x (mQ _ hx)) q2 (λp Gg x hx=>by
    have:=h3 p Gg
    have:=q1 x hx
    omega)
   refine⟨h4,λt=>?_⟩;rw[List.foldl_cons,h5,h2,gY,or_assoc]
end Np
section
open Go.RowKit
theorem OE{F:Fence}{n:Nat}{P:Program}(w:World){ops:Array Oper}{rest:List Oper}{o:Oper}{a:Act}{Q:Exit->Act->World->Prop}
 (hg:o.guard=none) (s x:Operand) (t:TypeId) (gj:o.op=Op.call { callee:=Callee.builtin Builtin.append,args:=#[s,x],argTypes:=#[t,t] })
 (base:Nat) (e:TypeId) (i:TypeInfo) (z:Value) (size bytes:Nat) (h1:P.underlying t=some (.slice e)) (h2:P.info? e=some i) (h3:i.zero=some z) (h4:i.size=size) (h5:i.bytes=bytes) (h6:z.cells.size=size) (h7:0<size)
 (v:Value) (k:Nat) (xs:List Value) (hs:a.eval s=v) (hown:w.ownsRow base e size v k xs) (ad:Addr) (m c:Nat) (news:List Value) (hx:a.eval x = .slice (some ad) m c) (hn:news.length=m * size)
 (hc:∀ j u,news[j]?=some u->w.cell? (ad.add j)=some u) (SV:∀ u∈news,u.oneCell'=true) (b1:k+m<=maxLen) (b2:(k+m) * bytes<=140737488355328) (b3:base<=w.heap.size)
 (hK:∀ v' w',w'.ownsRow base e size v' (k+m) (xs++news)->w.grownBy w' v.ownBlock->(v'.ownBlock=v.ownBlock\/v'.ownBlock=some w.heap.size)->wpListIn F n P ops Q rest (a.put o.dst v') w') :
 wpListIn F n P ops Q (o::rest) a w:=by
 obtain⟨v',w',cH,r1,r2,_,r4⟩:=run_append_own_at (P:=P) w base t o.type e i z size bytes h1 h2 h3 h4 h5 h6 h7 v k xs hown ad m c news hn hc SV b1 b2 b3;refine wpListIn_plain hg λK hK'=>⟨by simp[Oper.about,gj,resolve,Target.leads,Sem.run_pure],?_⟩;rw[Oper.semAt_plain F _ _ (by rw[gj];intro c hc';cases hc')];simp[execOp,gj,resolve,invoke,builtin,hs,hx,cH,Result.andThen];exact hK' _ _ (hK v' w' r1 r2 r4)
theorem MW{B:Nat}{S:Nat->Prop}{W W':World}{base:Nat}{e:TypeId}{size:Nat}{v:Value}{k:Nat}{xs:List Value}(h:W.ownsRow base e size v k xs)(hs:ItStep B S W W')(hS:∀ g,v.ownBlock=some g->S g):W'.ownsRow base e size v k xs:=by
 refine⟨h.1,?_⟩;rcases h.2 with hn | ⟨g,cap,cur,rfl,hb,hg,rest⟩
 ·exact .inl hn
 ·exact .inr ⟨g,cap,cur,rfl,hb,(hs.keep g (eQ.1 hg).1 (.inr (hS g rfl))).trans hg,rest⟩
theorem cM{W W':World}{base:Nat}{e:TypeId}{size:Nat}{v:Value}{k:Nat}{xs:List Value}(h:W.ownsRow base e size v k xs)(hs:∀ g,v.ownBlock=some g->W'.heap[g]?=W.heap[g]?):W'.ownsRow base e size v k xs:=by
 refine⟨h.1,?_⟩;rcases h.2 with hn | ⟨g,cap,cur,rfl,hb,hg,rest⟩
 ·exact .inl hn
 ·exact .inr ⟨g,cap,cur,rfl,hb,(hs g rfl).trans hg,rest⟩
theorem Ai{α:Type}{R:afQ α}{sz:Nat}{W:World}{base:Nat}{e:TypeId}{v:Value}{xs:List α}(enc:α->List Value)(hlen:∀ x∈xs,(enc x).length=sz)
 (h:W.ownsRow base e sz v xs.length (xs.flatMap enc)) (hl:xs.length<=140737488355328) (hR:∀ x∈xs,R W W.heap.size (enc x) x):SlR R sz W W.heap.size v xs:=by
 have Ge:∀ (l:List α) (i:Nat) (x:α) (j:Nat) (u:Value),(∀ y∈l,(enc y).length=sz)->l[i]?=some x->(enc x)[j]?=some u->(l.flatMap enc)[i * sz+j]?=some u:=by
  intro l
  induction l with
  | nil=>intro i x j u _ hi;simp at hi
  | cons y l ih=>
   intro i x j u ee hi hj;rw[List.flatMap_cons];have hy:(enc y).length=sz:=ee y (by simp)
   cases i with
   | zero=>
    simp at hi;subst hi;rw[List.getElem?_append_left (by have:=(cQ.1 hj).1;omega)];simpa using hj
   | succ i=>
    rw[oQ (by rw[hy,Nat.succ_mul];omega),hy]
    have:=ih i x j u (λy hy=>ee y (by simp[hy])) (by simpa using hi) hj
    rw[show (i+1) * sz+j - sz=i * sz+j by rw[Nat.succ_mul];omega];exact this
 rcases h.2 with ⟨rfl,h0⟩ | ⟨g,cap,cur,rfl,hb,hg,ky,_,_,U7⟩
 ·have:xs = []:=rQ h0
  subst this;exact⟨none,0,rfl,by simp,by simp,λi x hx=>by simp at hx⟩
 ·refine⟨_,cap,rfl,ky,hl,λi x hx=>⟨g,0,enc x,rfl,(eQ.1 hg).1,hlen x (gQ hx),λj u hj=>?_,hR x (gQ hx)⟩⟩;have h1:=Ge xs i x j u hlen hx hj;have h2:=h.cells (g:=g) rfl _ _ h1;have ll:(⟨g,0,none⟩:Addr).add (i * sz+j)=⟨g,0+i * sz+j,none⟩:=by unfold Addr.add;split <;> simp_all
  rw[ll] at h2;exact h2
def gL(_:World)(_:Nat)(e:List Value)(x:Int):Prop:=e = [.int .i64 x]
theorem kM:cL gL:=λ_ _ _ _ _ h _=>h
theorem t8:dD gL:=λ_ _ _ _ _ h _=>h
theorem CN{α:Type}(f:α->Value)(l:List α):l.map f=l.flatMap λx=>[f x]:=by induction l <;> simp_all
theorem qz{W:World}{base:Nat}{e:TypeId}{size:Nat}{v:Value}{k:Nat}{xs:List Value}(h:W.ownsRow base e size v k xs):∃ A cap,v = .slice A k cap:=by
 rcases h.2 with ⟨rfl,rfl⟩ | ⟨g,cap,_,rfl,_⟩
 ·exact⟨none,0,rfl⟩
 ·exact⟨_,cap,rfl⟩
theorem CT{W:World}{base:Nat}{e:TypeId}{size:Nat}{v:Value}{k:Nat}{xs:List Value}(h:W.ownsRow base e size v k xs):∀ g,v.ownBlock=some g->base<=g/\g<W.heap.size:=h.lt
theorem Rc{W w1:World}{lb:Nat}{t e:TypeId}{size:Nat}{v v':Value}{k m:Nat}{xs ys:List Value}{tmp:Obj}{S F:Nat->Prop}
 (hS:∀ i,S i↔F i\/i=lb\/v.ownBlock=some i) (hF:∀ i,F i->i<lb) (hv:Boxed W lb t v) (hrow:W.ownsRow (lb+1) e size v k xs)
 (jo:w1.ownsRow (lb+1) e size v' m ys) (mR:(W.alloc tmp).grownBy w1 v.ownBlock) (hat:v'.ownBlock=v.ownBlock\/v'.ownBlock=some (W.alloc tmp).heap.size) :
 Boxed w1 lb t v/\Boxed (w1.setCell ⟨lb,0,none⟩ v') lb t v'/\(w1.setCell ⟨lb,0,none⟩ v').ownsRow (lb+1) e size v' m ys/\RdStep S W (w1.setCell ⟨lb,0,none⟩ v')/\
  (∀ i,(F i\/i=lb\/v'.ownBlock=some i)->S i\/W.heap.size<=i)/\(∀ i,(F i\/i=lb\/v'.ownBlock=some i)->i<(w1.setCell ⟨lb,0,none⟩ v').heap.size)/\
  (∀ i,i<lb->(w1.setCell ⟨lb,0,none⟩ v').heap[i]?=W.heap[i]?):=by
 have aa:=hv.lt;have hb:=CT hrow;have hb':=CT jo;have hne:some lb≠v.ownBlock:=λe=>by have:=(hb lb e.symm).1;omega
 have zD:Boxed w1 lb t v:=(hv.alloc tmp).kept mR hne;have al:W.heap.size+1<=w1.heap.size:=by have:=mR.size;simpa using this
 have oM:(w1.setCell ⟨lb,0,none⟩ v').heap.size=w1.heap.size:=by simp[World.setCell]
 refine⟨zD,zD.set v',cM jo (λg hg=>wQ _ _ _ _ (λe=>by have:=(hb' g hg).1;simp at e;omega)),?_,λi hi=>?_,λi hi=>?_,λi hi=>?_⟩
 ·refine RdStep.setCell (RdStep.grown ((RdStep.refl S W).alloc tmp) mR (λk ek=>.inl ((hS k).2 (.inr (.inr ek))))) (.inl ((hS _).2 (.inr (.inl rfl)))) _
 ·rcases hi with hi | hi | hi
  ·exact .inl ((hS _).2 (.inl hi))
  ·exact .inl ((hS _).2 (.inr (.inl hi)))
  ·rcases hat with h | h
   ·rw[h] at hi;exact .inl ((hS _).2 (.inr (.inr hi)))
   ·rw[h] at hi;simp at hi;right;omega
 ·rw[oM];rcases hi with hi | hi | hi
  ·have:=hF i hi;omega
  ·omega
  ·exact (hb' i hi).2
 ·rw[wQ _ _ _ _ (by simp;omega),mR.block i (by simp;omega) (λe=>by have:=(hb i e.symm).1;omega),Below.heap_alloc _ _ _ (by omega)]
theorem Y0(l:List UInt8):Np.aT (l ++ [46])=Np.aT l ++ [[]]:=Np.Ak l []
theorem Y1:∀ (l:List UInt8) (c:UInt8) (pre:List (List UInt8)) (x:List UInt8),c≠46->Np.aT l=pre ++ [x]->Np.aT (l ++ [c])=pre ++ [x ++ [c]]:=by
 intro l
 induction l with
 | nil=>
  intro c pre x hc h;have h2:([[]]:List (List UInt8))=pre ++ [x]:=h
  cases pre with
  | nil=>simp at h2;subst h2;simp[Np.aT,hc]
  | cons a pre=>simp at h2
 | cons a r ih=>
  intro c pre x hc h;rw[List.cons_append];rw[Np.aT] at h |-;by_cases ha:a=46
  ·rw[Qb ha] at h |-
   cases pre with
   | nil=>simp at h;exact absurd h.2 (Np.o8 r)
   | cons b pre=>
    simp only[List.cons_append,List.cons.injEq] at h;rw[ih c pre x hc h.2,<-h.1];rfl
  ·rw[Qc ha] at h |-;have hne:=Np.o8 r
   cases hr:Np.aT r with
   | nil=>exact absurd hr hne
   | cons y ys=>
    rw[hr] at h;simp only at h
    cases pre with
    | nil=>
     simp only[List.nil_append,List.cons.injEq] at h;obtain⟨rfl,rfl⟩:=h;rw[ih c [] y hc (by rw[hr];rfl)];rfl
    | cons b pre=>
     simp only[List.cons_append,List.cons.injEq] at h;obtain⟨rfl,rfl⟩:=h;rw[ih c (y::pre) x hc (by rw[hr];rfl)];rfl
def RSt(_:World)(_:Nat)(e:List Value)(x:List UInt8):Prop:=e = [ay x]
theorem Db:cL RSt:=λ_ _ _ _ _ h _=>h
theorem NE:dD RSt:=λ_ _ _ _ _ h _=>h
def uh{α:Type}(R:afQ α)(sz:Nat)(w:World)(xs:List α)(e:Ending)(w':World):Prop:=∃ v,e = .returned v/\SlR R sz w' w'.heap.size v xs/\Below w.heap.size w w'
theorem Xa{W:World}{base:Nat}{e:TypeId}{g cap n:Nat}{xs:List Value}(h:W.ownsRow base e 1 (.slice (some ⟨g,0,none⟩) n cap) n xs)(j:Nat)(hj:j<n)(u:Value) :
 W.cell? ⟨g,j,none⟩=xs[j]?/\W.frozen? ⟨g,j,none⟩=false/\g<W.heap.size/\base<=g/\(W.setCell ⟨g,j,none⟩ u).ownsRow base e 1 (.slice (some ⟨g,0,none⟩) n cap) n (xs.set j u):=by
 obtain⟨h1,h2⟩:=h;rcases h2 with ⟨h2,_⟩ | ⟨g',cap',cur,h2,hb,hg,hn,hm,hs,ht⟩
 ·cases h2
 ·simp only[Value.slice.injEq,Option.some.injEq,Addr.mk.injEq,and_true,true_and] at h2;obtain⟨rfl,rfl⟩:=h2;have aa:=(eQ.1 hg).1;refine⟨?_,?_,aa,hb,by simpa using h1,.inr ⟨g,cap,cur.setIfInBounds j u,rfl,hb,?_,hn,hm,by simpa using hs,?_⟩⟩
  ·rw[<-ht];simp only[World.cell?,hg,Option.isSome_none,Bool.false_eq_true,if_false,List.getElem?_take];rw[Qb (by omega)];simp
  ·simp[World.frozen?,hg]
  ·simp only[World.setCell,Array.getElem?_modify,if_true,hg];simp
  ·rw[<-ht,Array.toList_setIfInBounds,List.take_set]
theorem Tryz.infoStr:(prog.info? 9).map (λi=>(i.zero,i.size,i.bytes))=some (some (.string ⟨#[]⟩),1,16):=by kernel_rfl
def QS(s:ByteArray)(w:World)(v i:Value)(wr:World):Prop:=
 ∃ (k:Nat) (pre:List (List UInt8)) (x:List UInt8),k<=s.size/\i = .int .i64 k/\Np.aT (s.data.toList.take k)=pre ++ [x]/\pre.length<=k/\wr.ownsRow w.heap.size 9 1 v (pre.length+1) (pre.map ay ++ [ay x])/\Below w.heap.size w wr
theorem Y7(x:List UInt8)(s:ByteArray)(k:Nat)(hk:k<s.size):Value.string ((⟨x.toArray⟩:ByteArray)++s.extract k (k+1))=ay (x ++ [s[k]]):=by
 show Value.string _=Value.string _;congr 1;apply jD
 have:(s.extract k (k+1)).data.toList = [s[k]]:=by
  rw[E5,Hj s k hk,List.drop_append_of_le_length (by rw[List.length_take,aX];omega),List.drop_of_length_le (by rw[List.length_take,aX];omega),List.nil_append]
 rw[ByteArray.data_append,Array.toList_append,this]
theorem Nt(s:ByteArray)(hs:s.size<=1000000)(w:World):Calls prog 103 #[.string s] w (uh RSt 1 w (Np.aT s.data.toList)):=by
 obtain⟨i0,hi,dI,bg,aO⟩:=info_parts Tryz.infoStr;go_enter func103,ntmps103;go_wp2;go_loopw [3,4] (λv i wr=>QS s w v i wr) (λ_ i _=>s.size - (intOf i).toNat)
 case atStart=>
  refine⟨0,[],[],jQ _,rfl,rfl,bQ _,⟨rfl,.inr ⟨w.heap.size,1,#[.string ⟨#[]⟩],rfl,bQ _,heap_alloc_new _ _,by simp,by simp[maxLen],rfl,rfl⟩⟩,(vQ _ _).alloc (bQ _) _⟩
 case round=>
  obtain⟨k,pre,x,hk,rfl,CA,tM,hown,hB⟩:=hrel;obtain⟨g,cap,rfl⟩:=ownsRow_succ hown;have al:=hB.size;have HB:=jq hB;have HO:=jq hown;have HS:=jq CA;clear hB hown CA;by_cases aa:k<s.size
  ·have hb:=wk s[k];have L8:=Hj s k aa;have HT:=jq L8;clear L8;by_cases xZ:(s[k].toNat:Int)=46
   ·have he:((s[k].toNat:Int) == 46)=true:=by simp[xZ]
    have hc:s[k]=46:=by
     apply UInt8.toNat_inj.1
     have:s[k].toNat=46:=by omega
     rw[this];rfl
    have HC:=jq hc;clear hc xZ;go_wp2_with (at_builtin;refine wpList_append_own_at _ rfl _ _ 116 rfl w.heap.size 9 i0 (.string ⟨#[]⟩) 1 16 underlying116 hi dI bg aO rfl (by decide) _ _ _ rfl (HO.out.alloc _) ⟨wr.heap.size,0,none⟩ 1 1 [.string ⟨#[]⟩] rfl rfl (cell_one_new _ _ _) (by simp[Value.oneCell']) (by unfold maxLen;omega) (by omega) (by simp;omega) ?_;intro v1 w1 LK pZ _ Tq;have H1:=jq (And.intro LK pZ);clear LK pZ Tq);go_roundw
    case rel=>
     obtain⟨o1,g1⟩:=H1.out;have Uv:=(HO.out.lt g rfl).1;refine⟨k+1,pre ++ [x],[],by omega,by go_num,?_,by simp;omega,?_,?_⟩
     ·rw[HT.out,HC.out,Y0,HS.out]
     ·simpa using o1
     ·exact (HB.out.alloc (by omega) _).grown g1 (by simp;omega) (λj hj=>by have e:g=j:=Option.some.inj hj;omega)
    case measure=>simp[intOf] <;> omega
   ·have he:((s[k].toNat:Int) == 46)=false:=by simp[xZ]
    have hc:s[k]≠46:=λe=>xZ (by rw[e];rfl);have HC:=jq hc;clear hc xZ;obtain⟨q1,q2,q3,q4,q5⟩:=Xa HO.out pre.length (by omega) (ay (x ++ [s[k]]));have hcell:wr.cell? ⟨g,pre.length,none⟩=some (ay x):=by rw[q1];simp
    have Ew:=jq q5;have ll:=Y7 x s k aa;clear q1 q5;have qu:x.length<=k:=by
     have h1:=Np.Hb (l:=s.data.toList.take k) (y:=x) (by rw[HS.out];simp);rw[List.length_take] at h1;omega
    have fw:¬ 9223372036854775807<x.length+(min (k+1) s.size - k):=by omega
    have ak:IntKind.i64.wrap (pre.length:Int)=pre.length:=IntWalk.i64_in _ (by omega);have ag:IntKind.i64.wrap ((k:Int)+1)=k+1:=IntWalk.i64_in _ (by omega);have LL:(0:Int)<=(pre.length:Int):=by omega
    have hp1:(pre.length:Int)<(pre.length:Int)+1:=by omega
    have bL:(0:Int)<=(k:Int):=by omega
    have bY:(k:Int)+1<=(s.size:Int):=by omega
    have ir:((k:Int)+1).toNat=k+1:=by omega
    have lz:(0:Int)<=(k:Int)+1:=by omega
    have iT:(k:Int)<=(k:Int)+1:=by omega
    go_wp2_with fail;refine OH 17 (by kernel_rfl) (by kernel_rfl) ?_;simp only[List.take_succ_cons,List.take_zero,List.drop_succ_cons,List.drop_zero]
    iterate 17 still_step
    refine wpStill_nil ?_;go_wp2_with fail;go_roundw
    case rel=>
     refine⟨k+1,pre,x ++ [s[k]],by omega,by go_num,?_,by omega,?_,?_⟩
     ·rw[HT.out];exact Y1 _ _ _ _ HC.out HS.out
     ·have h5:(wr.setCell ⟨g,pre.length,none⟩ (ay (x ++ [s[k]]))).ownsRow w.heap.size 9 1 (.slice (some ⟨g,0,none⟩) (pre.length+1) cap) (pre.length+1) (pre.map ay ++ [ay (x ++ [s[k]])]):=by
       have:=Ew.out
       simpa using this
      exact h5
     ·exact (HB.out.setCell (p:=⟨g,pre.length,none⟩) q4 _).drew
    case measure=>simp[intOf] <;> omega
  ·go_wp2_with fail;go_ret;refine⟨_,rfl,?_,HB.out⟩;have aY:Np.aT s.data.toList=pre ++ [x]:=by have:=HS.out;rwa [Dg s k (by omega)] at this
   rw[aY];refine Ai (sz:=1) (e:=9) (base:=w.heap.size) (λx=>[ay x]) (λ_ _=>rfl) ?_ (by simp;omega) (λ_ _=>rfl)
   have:=HO.out
   simpa [CN] using this
theorem YU{α:Type}{R:afQ α}{sz:Nat}(w:World)(B:Nat):SlR R sz w B (.slice none 0 0) []:=⟨none,0,rfl,by simp,by simp,λi x h=>by simp at h⟩
theorem z6(s:ByteArray)(hs:s.size<=1000000)(w:World):Calls prog 233 #[.string s] w (uh RSt 1 w (Np.dS s.data.toList)):=by
 by_cases h:s.data.toList = [46]
 ·have he:(s.toList == [46])=true:=by rw[dQ,h];rfl
  have hp:Np.dS s.data.toList = []:=by rw[Np.dS,Qb h]
  rw[hp];clear h hp;go_enter func233,ntmps233;go_wp2_with fail;go_ret;exact⟨_,rfl,YU _ _,vQ _ _⟩
 ·have he:(s.toList == [46])=false:=by rw[dQ];simpa using h
  have hp:Np.dS s.data.toList=Np.aT s.data.toList:=by rw[Np.dS,Qc h]
  rw[hp];clear h hp;go_enter func233,ntmps233;go_wp2_with fail;refine (Nt s hs _).mono ?_;rintro e w1 ⟨v,rfl,hv,hb⟩;have HV:=jq (And.intro hv hb);clear hv hb;go_wp2_with fail;go_ret;exact⟨_,rfl,HV.out⟩
theorem Al{w:World}{B:Nat}{v:Value}{xs:List (List UInt8)}(h:SlR RSt 1 w B v xs){k:Nat}{x:List UInt8}(hx:xs[k]?=some x):∃ b o c,v = .slice (some ⟨b,o,none⟩) xs.length c/\b<B/\xs.length<=c/\w.cell? ⟨b,o+k,none⟩=some (ay x):=by
 obtain⟨A,c,rfl,hc,_,he⟩:=h;obtain⟨b,o,e,rfl,hb,_,hce,rfl⟩:=he k x hx;exact⟨b,o,c,rfl,hb,hc,by have:=hce 0 _ rfl;simpa using this⟩
structure Turned(b:Nat)(w w':World):Prop where
 os:w'.os=w.os
 tape:w'.tape=w.tape
 output:w'.output=w.output
 size:w'.heap.size=w.heap.size
 block:∀ i,i≠b->w'.heap[i]?=w.heap[i]?
theorem Turned.refl(b:Nat)(w:World):Turned b w w:=⟨rfl,rfl,rfl,rfl,λ_ _=>rfl⟩
theorem Turned.trans{b:Nat}{u v w:World}(h:Turned b u v)(k:Turned b v w):Turned b u w:=⟨k.os.trans h.os,k.tape.trans h.tape,k.output.trans h.output,k.size.trans h.size,λi hi=>(k.block i hi).trans (h.block i hi)⟩
theorem Turned.cell{b:Nat}{w w':World}(h:Turned b w w'){p:Addr}(hp:p.block≠b):w'.cell? p=w.cell? p:=by
 unfold World.cell?;rw[h.block _ hp]
theorem Turned.grown{b:Nat}{w w':World}(h:Turned b w w'):w.grownBy w' (some b):=⟨h.os,h.tape,h.output,by rw[h.size];exact bQ _,λi _ hne=>h.block i (λe=>hne (by rw[e]))⟩
theorem Turned.below{b n:Nat}{w w':World}(h:Turned b w w')(hn:n<=b):Below n w w':=⟨h.os,h.tape,h.output,by rw[h.size];exact bQ _,λi hi=>h.block i (by omega)⟩
end
section
open Go.RowKit Go.MapKept
def di(r:Nat)(kvs:List (List UInt8×Value))(w:World):Prop:=∃ es c,w.heap[r]?=some (.map es c)/\es.toList.map (λe=>(e.key,e.val))=kvs.map λp=>(ay p.1,p.2)
theorem di.lt{r:Nat}{kvs:List (List UInt8×Value)}{w:World}(h:di r kvs w):r<w.heap.size:=by
 obtain⟨es,c,h,_⟩:=h;exact (eQ.1 h).1
theorem di.keep{r:Nat}{kvs:List (List UInt8×Value)}{w w':World}{n:Nat}(h:di r kvs w)(hb:Below n w w')(hn:r<n):di r kvs w':=by
 obtain⟨es,c,h,h2⟩:=h;exact⟨es,c,(hb.block r hn).trans h,h2⟩
theorem di.made(w:World):di w.heap.size [] (w.alloc (.map #[] 0)):=⟨#[],0,heap_alloc_new _ _,rfl⟩
theorem Of(x y:List UInt8):((⟨x.toArray⟩:ByteArray) == ⟨y.toArray⟩)=(x == y):=by
 have h:((⟨x.toArray⟩:ByteArray) == ⟨y.toArray⟩)=(x.toArray == y.toArray):=rfl;rw[h,List.beq_toArray]
theorem BI(x:List UInt8):∀ (es:List MapEntry) (kvs:List (List UInt8×Value)) (i:Nat),es.map (λe=>(e.key,e.val))=kvs.map (λp=>(ay p.1,p.2))->
 (∀ v,kvs.lookup x=some v->∃ j,Instr.findNow .string (ay x) es i=some (some (j,v)))/\(kvs.lookup x=none->Instr.findNow .string (ay x) es i=some none):=by
 intro es
 induction es with
 | nil=>
  intro kvs i h
  cases kvs with
  | nil=>exact⟨λv hv=>by simp at hv,λ_=>rfl⟩
  | cons=>simp at h
 | cons e es ih=>
  intro kvs i h
  cases kvs with
  | nil=>simp at h
  | cons p kvs=>
   obtain⟨y,u⟩:=p;simp only[List.map_cons,List.cons.injEq,Prod.mk.injEq] at h;obtain⟨⟨h1,h2⟩,h3⟩:=h;have hs:Instr.sameNow .string (ay x) e.key=some (x == y):=by rw[h1];simp only[Instr.sameNow];rw[Of]
   by_cases bF:x=y
   ·subst bF;have hb:(x == x)=true:=by simp
    rw[hb] at hs;refine⟨λv hv=>⟨i,?_⟩,λhv=>?_⟩
    ·rw[List.lookup_cons_self] at hv;simp only[Instr.findNow,hs]
     cases hv
     rw[h2]
    ·rw[List.lookup_cons_self] at hv;cases hv
   ·have hb:(x == y)=false:=by simpa using bF
    rw[hb] at hs;have hl:((y,u)::kvs).lookup x=kvs.lookup x:=by rw[List.lookup_cons,hb]
    rw[hl];obtain⟨i1,i2⟩:=ih kvs (i+1) h3;refine⟨λv hv=>?_,λhv=>?_⟩
    ·obtain⟨j,hj⟩:=i1 v hv;exact⟨j,by simp only[Instr.findNow,hs];exact hj⟩
    ·simp only[Instr.findNow,hs];exact i2 hv
section
variable {P:Program} {ops:Array Oper} {rest:List Oper} {o:Oper} {a:Act} {Q:Exit->Act->World->Prop}
theorem OF(w:World)(hg:o.guard=none)(m x v:Operand)(t:TypeId)(gj:o.op=Op.mapUpdate t m x v)(kt et:TypeId)(ht:P.underlying t=some (.map kt et))(hk:P.underlying kt=some .string)
 (r:Nat) (kvs:List (List UInt8×Value)) (hm:a.eval m = .map (some r)) (hr:di r kvs w) (key:List UInt8) (hx:a.eval x=ay key) (val:Value) (hv:a.eval v=val) (fw:kvs.lookup key=none)
 (hK:∀ w',di r (kvs ++ [(key,val)]) w'->Turned r w w'->wpList P ops Q rest (a.put o.dst undef) w'):wpList P ops Q (o::rest) a w:=by
 obtain⟨es,c,hr,he⟩:=hr;have hf:=(BI key es.toList kvs 0 he).2 fw;refine wpList_plain hg λK' hK'=>?_;have hc:(Instr.checkKey false 10000 kt (ay key)).run P w = .ok () w:=MapKept.run_checkKey (k:=ay key) hk (by simp[MapKept.IsKey]) false 9999;have cH:(Instr.mapUpdate t (.map (some r)) (ay key) val).run P w = .ok () { w with heap:=w.heap.setIfInBounds r (.map (es.push { key:=ay key,val:=val,born:=c }) (c+1)) }:=by
  simp[Instr.mapUpdate,run_underlying ht,MapKept.run_getObj_map hr,hc,MapKept.run_findKey hk hf,MapKept.run_setObj_map _ hr,Result.andThen]
 unfold Oper.wp;simp[execOp,gj,hm,hx,hv,cH,Result.andThen];have hl:r<w.heap.size:=(eQ.1 hr).1;refine hK' _ _ (hK _ ⟨_,_,by simp[hl];exact⟨rfl,rfl⟩,by simp[he]⟩ ⟨rfl,rfl,rfl,by simp,λi hi=>by simp[Ne.symm hi]⟩)
theorem G6(w:World)(t kt et:TypeId)(ht:P.underlying t=some (.map kt et))(hk:P.underlying kt=some .string)(r:Nat)(kvs:List (List UInt8×Value))(hr:di r kvs w)(key:List UInt8)(z:Value)(hz:(zeroValue et).run P w = .ok z w) :
 (Instr.lookup t (.map (some r)) (ay key) false).run P w = .ok ((kvs.lookup key).getD z) w:=by
 obtain⟨es,c,hr,he⟩:=hr;have hf:=BI key es.toList kvs 0 he;have hc:∀ b,(Instr.checkKey b 10000 kt (ay key)).run P w = .ok () w:=λb=>MapKept.run_checkKey (k:=ay key) hk (by simp[MapKept.IsKey]) b 9999
 cases hl:kvs.lookup key with
 | none=>simp[Instr.lookup,run_underlying ht,MapKept.run_getObj_map hr,hc,MapKept.run_findKey hk (hf.2 hl),Result.andThen,hz]
 | some v=>
  obtain⟨j,hj⟩:=hf.1 v hl;simp[Instr.lookup,run_underlying ht,MapKept.run_getObj_map hr,hc,MapKept.run_findKey hk hj,Result.andThen]
end
def lR(r:Nat)(kvs:List (Int×Value))(w:World):Prop:=∃ es c,w.heap[r]?=some (.map es c)/\es.toList.map (λe=>(e.key,e.val))=kvs.map λp=>(Value.int .i64 p.1,p.2)
theorem lR.lt{r:Nat}{kvs:List (Int×Value)}{w:World}(h:lR r kvs w):r<w.heap.size:=by
 obtain⟨es,c,h,_⟩:=h;exact (eQ.1 h).1
theorem lR.keep{r:Nat}{kvs:List (Int×Value)}{w w':World}{n:Nat}(h:lR r kvs w)(hb:Below n w w')(hn:r<n):lR r kvs w':=by
 obtain⟨es,c,h,h2⟩:=h;exact⟨es,c,(hb.block r hn).trans h,h2⟩
theorem lR.made(w:World):lR w.heap.size [] (w.alloc (.map #[] 0)):=⟨#[],0,heap_alloc_new _ _,rfl⟩
theorem Kn(x:Int):∀ (es:List MapEntry) (kvs:List (Int×Value)) (i:Nat),es.map (λe=>(e.key,e.val))=kvs.map (λp=>(Value.int .i64 p.1,p.2))->
 (∀ v,kvs.lookup x=some v->∃ j,Instr.findNow (.int .i64) (.int .i64 x) es i=some (some (j,v)))/\(kvs.lookup x=none->Instr.findNow (.int .i64) (.int .i64 x) es i=some none):=by
 intro es
 induction es with
 | nil=>
  intro kvs i h
  cases kvs with
  | nil=>exact⟨λv hv=>by simp at hv,λ_=>rfl⟩
  | cons=>simp at h
 | cons e es ih=>
  intro kvs i h
  cases kvs with
  | nil=>simp at h
  | cons p kvs=>
   obtain⟨y,u⟩:=p;simp only[List.map_cons,List.cons.injEq,Prod.mk.injEq] at h;obtain⟨⟨h1,h2⟩,h3⟩:=h;have hs:Instr.sameNow (.int .i64) (.int .i64 x) e.key=some (x == y):=by rw[h1];simp[Instr.sameNow]
   by_cases bF:x=y
   ·subst bF;have hb:(x == x)=true:=by simp
    rw[hb] at hs;refine⟨λv hv=>⟨i,?_⟩,λhv=>?_⟩
    ·rw[List.lookup_cons_self] at hv;simp only[Instr.findNow,hs]
     cases hv
     rw[h2]
    ·rw[List.lookup_cons_self] at hv;cases hv
   ·have hb:(x == y)=false:=by simpa using bF
    rw[hb] at hs;have hl:((y,u)::kvs).lookup x=kvs.lookup x:=by rw[List.lookup_cons,hb]
    rw[hl];obtain⟨i1,i2⟩:=ih kvs (i+1) h3;refine⟨λv hv=>?_,λhv=>?_⟩
    ·obtain⟨j,hj⟩:=i1 v hv;exact⟨j,by simp only[Instr.findNow,hs];exact hj⟩
    ·simp only[Instr.findNow,hs];exact i2 hv
section
variable {P:Program} {ops:Array Oper} {rest:List Oper} {o:Oper} {a:Act} {Q:Exit->Act->World->Prop}
theorem Z5(w:World)(hg:o.guard=none)(m x v:Operand)(t:TypeId)(gj:o.op=Op.mapUpdate t m x v)(kt et:TypeId)(ht:P.underlying t=some (.map kt et))(hk:P.underlying kt=some (.int .i64))
 (r:Nat) (kvs:List (Int×Value)) (hm:a.eval m = .map (some r)) (hr:lR r kvs w) (key:Int) (hx:a.eval x = .int .i64 key) (val:Value) (hv:a.eval v=val) (fw:kvs.lookup key=none)
 (hK:∀ w',lR r (kvs ++ [(key,val)]) w'->Turned r w w'->wpList P ops Q rest (a.put o.dst undef) w'):wpList P ops Q (o::rest) a w:=by
 obtain⟨es,c,hr,he⟩:=hr;have hf:=(Kn key es.toList kvs 0 he).2 fw;refine wpList_plain hg λK' hK'=>?_;have hc:(Instr.checkKey false 10000 kt (.int .i64 key)).run P w = .ok () w:=MapKept.run_checkKey (k:=.int .i64 key) hk (by simp[MapKept.IsKey]) false 9999;have cH:(Instr.mapUpdate t (.map (some r)) (.int .i64 key) val).run P w = .ok () { w with heap:=w.heap.setIfInBounds r (.map (es.push { key:=.int .i64 key,val:=val,born:=c }) (c+1)) }:=by
  simp[Instr.mapUpdate,run_underlying ht,MapKept.run_getObj_map hr,hc,MapKept.run_findKey hk hf,MapKept.run_setObj_map _ hr,Result.andThen]
 unfold Oper.wp;simp[execOp,gj,hm,hx,hv,cH,Result.andThen];have hl:r<w.heap.size:=(eQ.1 hr).1;refine hK' _ _ (hK _ ⟨_,_,by simp[hl];exact⟨rfl,rfl⟩,by simp[he]⟩ ⟨rfl,rfl,rfl,by simp,λi hi=>by simp[Ne.symm hi]⟩)
theorem YA(w:World)(t kt et:TypeId)(ht:P.underlying t=some (.map kt et))(hk:P.underlying kt=some (.int .i64))(r:Nat)(kvs:List (Int×Value))(hr:lR r kvs w)(key:Int)(z:Value)(hz:(zeroValue et).run P w = .ok z w) :
 (Instr.lookup t (.map (some r)) (.int .i64 key) false).run P w = .ok ((kvs.lookup key).getD z) w:=by
 obtain⟨es,c,hr,he⟩:=hr;have hf:=Kn key es.toList kvs 0 he;have hc:∀ b,(Instr.checkKey b 10000 kt (.int .i64 key)).run P w = .ok () w:=λb=>MapKept.run_checkKey (k:=.int .i64 key) hk (by simp[MapKept.IsKey]) b 9999
 cases hl:kvs.lookup key with
 | none=>simp[Instr.lookup,run_underlying ht,MapKept.run_getObj_map hr,hc,MapKept.run_findKey hk (hf.2 hl),Result.andThen,hz]
 | some v=>
  obtain⟨j,hj⟩:=hf.1 v hl;simp[Instr.lookup,run_underlying ht,MapKept.run_getObj_map hr,hc,MapKept.run_findKey hk hj,Result.andThen]
end
end
section
open Go.RowKit
def bj{α:Type}(R:afQ α)(sz:Nat)(e:TypeId)(base B:Nat)(w:World)(v:Value)(xs:List α):Prop:=
 ∃ rows:List (List Value),rows.length=xs.length/\w.ownsRow base e sz v xs.length rows.flatten/\∀ (i:Nat) (r:List Value) (x:α),rows[i]?=some r->xs[i]?=some x->r.length=sz/\R w B r x
theorem BM{sz:Nat} : ∀ (rows:List (List Value)) (i j:Nat) (r:List Value) (u:Value),(∀ q∈rows,q.length=sz)->rows[i]?=some r->r[j]?=some u->rows.flatten[i * sz+j]?=some u:=by
 intro rows
 induction rows with
 | nil=>intro i j r u _ h;simp at h
 | cons q rows ih=>
  intro i j r u hq h hj;have hl:q.length=sz:=hq q (by simp);rw[List.flatten_cons]
  cases i with
  | zero=>
   simp at h;subst h;rw[List.getElem?_append_left (by have:=(cQ.1 hj).1;omega)];simpa using hj
  | succ i=>
   rw[oQ (by rw[hl,Nat.succ_mul];omega),hl,show (i+1) * sz+j - sz=i * sz+j by rw[Nat.succ_mul];omega];exact ih i j r u (λq hq'=>hq q (by simp[hq'])) (by simpa using h) hj
theorem Fd{sz:Nat} : ∀ (rows:List (List Value)),(∀ q∈rows,q.length=sz)->rows.flatten.length=rows.length * sz:=by
 intro rows
 induction rows with
 | nil=>intro _;simp
 | cons q rs ih=>
  intro h;rw[List.flatten_cons,List.length_append,ih (λx hx=>h x (by simp[hx])),h q (by simp),List.length_cons,Nat.succ_mul];omega
theorem bj.rows_len{α:Type}{R:afQ α}{sz B:Nat}{w:World}{xs:List α}{rows:List (List Value)}(hl:rows.length=xs.length)(h:∀ (i:Nat) (r:List Value) (x:α),rows[i]?=some r->xs[i]?=some x->r.length=sz/\R w B r x):∀ q∈rows,q.length=sz:=λq hq=>by
 obtain⟨i,hi,rfl⟩:=nQ.1 hq;exact (h i _ _ (aQ hi) (aQ (by omega))).1
theorem bj.slr{α:Type}{R:afQ α}{sz:Nat}{e:TypeId}{base B:Nat}{w:World}{v:Value}{xs:List α}(h:bj R sz e base B w v xs)(hm:dD R)(hB:B<=w.heap.size)(hl:xs.length<=140737488355328):SlR R sz w w.heap.size v xs:=by
 obtain⟨rows,h1,h2,h3⟩:=h;rcases h2.2 with ⟨rfl,h0⟩ | ⟨g,cap,cur,rfl,hb,hg,ky,_⟩
 ·have:xs = []:=rQ h0
  subst this;exact⟨none,0,rfl,by simp,by simp,λi x hx=>by simp at hx⟩
 ·refine⟨_,cap,rfl,ky,hl,λi x hx=>?_⟩;have hi:=(cQ.1 hx).1;have hr:=aQ (show i<rows.length by omega);obtain⟨h4,h5⟩:=h3 i _ x hr hx;refine⟨g,0,rows[i],rfl,(eQ.1 hg).1,h4,λj u hj=>?_,hm _ _ _ _ _ h5 hB⟩;have h6:=h2.cells (g:=g) rfl _ _ (BM rows i j _ u (bj.rows_len h1 h3) hr hj);have ll:(⟨g,0,none⟩:Addr).add (i * sz+j)=⟨g,0+i * sz+j,none⟩:=by unfold Addr.add;split <;> simp_all
  rw[ll] at h6;exact h6
theorem bj.keep{α:Type}{R:afQ α}{sz:Nat}{e:TypeId}{base B:Nat}{w w':World}{v:Value}{xs:List α}(h:bj R sz e base B w v xs)(hk:cL R)(hb:Below w.heap.size w w')(hB:B<=w.heap.size):bj R sz e base B w' v xs:=by
 obtain⟨rows,h1,h2,h3⟩:=h;refine⟨rows,h1,cM h2 (λg hg=>hb.block g (h2.lt g hg).2),λi r x hr hx=>?_⟩;obtain⟨h4,h5⟩:=h3 i r x hr hx;exact⟨h4,hk _ _ _ _ _ h5 (hb.mono hB)⟩
theorem bj.empty{α:Type}{R:afQ α}{sz:Nat}{e:TypeId}{base B:Nat}(w:World)(hb:base<=w.heap.size):bj (α:=α) R sz e base B (w.alloc (.cells #[] e)) (.slice (some ⟨w.heap.size,0,none⟩) 0 0) []:=
 ⟨[],rfl,⟨by simp,.inr ⟨w.heap.size,0,#[],rfl,hb,heap_alloc_new _ _,bQ _,by simp[maxLen],by simp,by simp⟩⟩,λi r x hr=>by simp at hr⟩
theorem bj.nil{α:Type}{R:afQ α}{sz:Nat}{e:TypeId}{base B:Nat}(w:World):bj (α:=α) R sz e base B w (.slice none 0 0) []:=⟨[],rfl,⟨by simp,.inl ⟨rfl,rfl⟩⟩,λi r x hr=>by simp at hr⟩
theorem N0{α:Type}{R:afQ α}{sz:Nat}{w:World}{B:Nat}{A:Option Addr}{n c:Nat}{ys:List α}(h:SlR R sz w B (.slice A n c) ys)(al:0<sz) :
 ∃ rows:List (List Value),rows.length=ys.length/\(∀ (i:Nat) (r:List Value) (x:α),rows[i]?=some r->ys[i]?=some x->r.length=sz/\R w B r x)/\(ys≠[]->∃ b o,A=some ⟨b,o,none⟩/\b<B/\∀ j u,rows.flatten[j]?=some u->w.cell? ((⟨b,o,none⟩:Addr).add j)=some u):=by
 obtain⟨A',c',hv,hc,hl,he⟩:=h
 cases hv
 have aY:∀ k,k<=ys.length->∃ rows:List (List Value),rows.length=k/\(∀ (i:Nat) (r:List Value) (x:α),rows[i]?=some r->ys[i]?=some x->r.length=sz/\R w B r x/\∃ b o,A=some ⟨b,o,none⟩/\b<B/\fZ w b (o+i * sz) r):=by
  intro k
  induction k with
  | zero=>exact λ_=>⟨[],rfl,λi r x hr=>by simp at hr⟩
  | succ k ih=>
   intro hk;obtain⟨rows,h1,h2⟩:=ih (by omega);obtain⟨b,o,e,hA,hb,aC,hce,hr⟩:=he k _ (aQ (by omega:k<ys.length));refine⟨rows ++ [e],by simp[h1],λi r x hr' hx=>?_⟩;rcases Nat.lt_or_ge i rows.length with aa | nR
   ·rw[List.getElem?_append_left aa] at hr';exact h2 i r x hr' hx
   ·rw[oQ nR] at hr';have h0:i - rows.length=0:=by have:=(cQ.1 hr').1;simp at this;omega
    rw[h0] at hr';simp at hr';subst hr';obtain rfl:i=k:=by omega
    rw[aQ (by omega)] at hx;simp only[Option.some.injEq] at hx;subst hx;exact⟨aC,hr,b,o,hA,hb,hce⟩
 obtain⟨rows,h1,h2⟩:=aY ys.length (bQ _);refine⟨rows,h1,λi r x hr hx=>⟨(h2 i r x hr hx).1,(h2 i r x hr hx).2.1⟩,λhne=>?_⟩;have h0:0<ys.length:=Nat.pos_of_ne_zero (λe=>hne (rQ e));obtain⟨_,_,b,o,hA,hb,_⟩:=h2 0 _ _ (aQ (by omega)) (aQ h0);refine⟨b,o,hA,hb,λj u hj=>?_⟩;have hlen:∀ q∈rows,q.length=sz:=λq hq=>by
  obtain⟨i,hi,rfl⟩:=nQ.1 hq;exact (h2 i _ _ (aQ hi) (aQ (by omega))).1
 have vd:=Fd rows hlen;have jZ:=(cQ.1 hj).1;have hi:j / sz<rows.length:=by rw[vd] at jZ;exact Nat.div_lt_of_lt_mul (by rw[Nat.mul_comm];exact jZ)
 obtain⟨h5,_,b',o',hA',_,hce⟩:=h2 (j / sz) _ _ (aQ hi) (aQ (by omega));rw[hA] at hA';simp only[Option.some.injEq,Addr.mk.injEq,and_true] at hA';obtain⟨rfl,rfl⟩:=hA';have Cr:j % sz<rows[j / sz].length:=by rw[h5];exact Nat.mod_lt _ al
 have h7:=BM rows (j / sz) (j % sz) _ _ hlen (aQ hi) (aQ Cr);rw[Nat.div_add_mod' j sz,hj] at h7;simp only[Option.some.injEq] at h7;have h8:=hce (j % sz) _ (aQ Cr);rw[<-h7] at h8;have ll:(⟨b,o,none⟩:Addr).add j=⟨b,o+j,none⟩:=by unfold Addr.add;split <;> simp_all
 rw[ll,<-h8];congr 2
 have:=Nat.div_add_mod' j sz
 omega
section
variable {P:Program}
theorem NK{w:World}(base:Nat)(t ty e:TypeId)(i:TypeInfo)(size:Nat)(ht:P.underlying t=some (.slice e))(hi:P.info? e=some i)(v:Value)(n c:Nat)(xs:List Value)(hown:w.ownsRow base e size v n xs) :
 (Builtin.append_ #[t,t] ty #[v,.slice none 0 c]).run P w = .ok v w:=by
 rcases hown.2 with ⟨rfl,rfl⟩ | ⟨g,cap,cur,rfl,_,_,ky,_⟩
 ·simp[Builtin.append_,run_underlying ht,sizeOf,typeInfo,hi,Builtin.lenOf,Builtin.firstCells]
 ·simp[Builtin.append_,run_underlying ht,sizeOf,typeInfo,hi,Builtin.lenOf,Builtin.firstCells,ky,storeCells]
theorem H0{α:Type}{R:afQ α}{sz:Nat}(w:World){ops:Array Oper}{rest:List Oper}{o:Oper}{a:Act}{Q:Exit->Act->World->Prop}(fJ:o.guard=none)(s x:Operand)(t:TypeId)
 (ho:o.op = .call { callee:=.builtin .append,args:=#[s,x],argTypes:=#[t,t] })
 (base B:Nat) (e:TypeId) (i:TypeInfo) (z:Value) (bytes:Nat) (ht:P.underlying t=some (.slice e)) (hi:P.info? e=some i) (hz:i.zero=some z) (kC:i.size=sz) (gw:i.bytes=bytes) (kK:z.cells.size=sz) (al:0<sz)
 (v:Value) (xs:List α) (hs:a.eval s=v) (hown:bj R sz e base B w v xs) (A:Option Addr) (c Bs:Nat) (ys:List α) (hx:a.eval x = .slice A ys.length c) (dY:SlR R sz w Bs (.slice A ys.length c) ys)
 (tL:∀ r y,R w Bs r y->∀ u∈r,u.oneCell'=true) (jj:xs.length+ys.length<=maxLen) (l5:(xs.length+ys.length) * bytes<=140737488355328) (cW:base<=w.heap.size) (nI:Bs<=B) (KK:B<=base) (hk:cL R) (hm:dD R)
 (h:∀ v' w',bj R sz e base B w' v' (xs++ys)->Below base w w'->w.grownBy w' v.ownBlock->wpList P ops Q rest (a.put o.dst v') w'):wpList P ops Q (o::rest) a w:=by
 have qd:∀ (w':World) (v':Value) (rows rows':List (List Value)),Below base w w'->rows.length=xs.length->(∀ (i:Nat) (r:List Value) (x:α),rows[i]?=some r->xs[i]?=some x->r.length=sz/\R w B r x)->rows'.length=ys.length->
  (∀ (i:Nat) (r:List Value) (x:α),rows'[i]?=some r->ys[i]?=some x->r.length=sz/\R w Bs r x)->w'.ownsRow base e sz v' (xs.length+ys.length) (rows.flatten++rows'.flatten)->bj R sz e base B w' v' (xs++ys):=by
  intro w' v' rows rows' hb h1 h2 h3 h4 h5;refine⟨rows++rows',by simp[h1,h3],?_,λj r y hr hy=>?_⟩
  ·rw[List.length_append,List.flatten_append];exact h5
  ·rcases Nat.lt_or_ge j rows.length with aa | nR
   ·rw[List.getElem?_append_left aa] at hr;rw[List.getElem?_append_left (by omega)] at hy;obtain⟨h6,h7⟩:=h2 j r y hr hy;exact⟨h6,hk _ _ _ _ _ h7 (hb.mono KK)⟩
   ·rw[oQ nR] at hr;rw[oQ (by omega),<-h1] at hy;obtain⟨h6,h7⟩:=h4 _ r y hr hy;exact⟨h6,hk _ _ _ _ _ (hm _ _ _ _ _ h7 nI) (hb.mono KK)⟩
 obtain⟨rows,h1,h2,h3⟩:=hown;obtain⟨rows',h4,h5,h6⟩:=N0 dY al;by_cases hy:ys = []
 ·subst hy;have nV:rows' = []:=rQ (by simpa using h4);subst nV
  cases A with
  | none=>
   have cH:=NK (P:=P) base t o.type e i sz ht hi v xs.length c rows.flatten h2;refine wpList_plain fJ λK hK=>?_;unfold Oper.wp;have hx':a.eval x = .slice none 0 c:=hx;simp[execOp,ho,resolve,invoke,builtin,hs,hx',cH,Result.andThen];refine hK _ _ (h v w (qd w v rows [] (vQ _ _) h1 h3 rfl (λj r y hr=>by simp at hr) (by simpa using h2)) (vQ _ _) ⟨rfl,rfl,rfl,bQ _,λ_ _ _=>rfl⟩)
  | some ad=>
   refine wpList_append_own_at w fJ s x t ho base e i z sz bytes ht hi hz kC gw kK al v xs.length rows.flatten hs h2 ad 0 c [] hx (by simp) (λj u hj=>by simp at hj) (λu hu=>by cases hu) (by simpa using jj) (by simpa using l5) cW ?_;intro v' w' ho' hg _ _;have hb:Below base w w':=(vQ _ _).grown hg cW (λk hk=>(h2.lt k hk).1);exact h v' w' (qd w' v' rows [] hb h1 h3 rfl (λj r y hr=>by simp at hr) (by simpa using ho')) hb hg
 ·obtain⟨b,o',rfl,bp,hcell⟩:=h6 hy;have hl:=bj.rows_len h4 h5;refine wpList_append_own_at w fJ s x t ho base e i z sz bytes ht hi hz kC gw kK al v xs.length rows.flatten hs h2 ⟨b,o',none⟩ ys.length c rows'.flatten hx (by rw[Fd rows' hl,h4]) hcell (λu hu=>?_) jj l5 cW ?_
  ·obtain⟨r,hr,Gu⟩:=List.mem_flatten.1 hu;obtain⟨j,hj,rfl⟩:=nQ.1 hr;exact tL _ _ (h5 j _ _ (aQ hj) (aQ (by omega))).2 u Gu
  ·intro v' w' ho' hg _ _;have hb:Below base w w':=(vQ _ _).grown hg cW (λk hk=>(h2.lt k hk).1);exact h v' w' (qd w' v' rows rows' hb h1 h3 h4 h5 ho') hb hg
end
end
section
open Go.RowKit Go.MapKept
def pP(p:Int×List UInt8):Value:=.agg #[.int .i64 p.1,ay p.2]
def iJ(r:Nat)(kvs:List ((Int×List UInt8)×Value))(w:World):Prop:=∃ es,w.heap[r]?=some (.map es es.size)/\es.toList.map (λe=>(e.key,e.val))=kvs.map (λp=>(pP p.1,p.2))/\∀ (i:Nat) (e:MapEntry),es[i]?=some e->e.born=i
theorem iJ.lt{r:Nat}{kvs:List ((Int×List UInt8)×Value)}{w:World}(h:iJ r kvs w):r<w.heap.size:=by
 obtain⟨es,h,_⟩:=h;exact (eQ.1 h).1
theorem iJ.keep{r:Nat}{kvs:List ((Int×List UInt8)×Value)}{w w':World}{n:Nat}(h:iJ r kvs w)(hb:Below n w w')(hn:r<n):iJ r kvs w':=by
 obtain⟨es,h,h2⟩:=h;exact⟨es,(hb.block r hn).trans h,h2⟩
theorem iJ.keep'{r:Nat}{kvs:List ((Int×List UInt8)×Value)}{w w':World}(h:iJ r kvs w)(hb:w'.heap[r]?=w.heap[r]?):iJ r kvs w':=by
 obtain⟨es,h,h2⟩:=h;exact⟨es,hb.trans h,h2⟩
theorem iJ.made(w:World):iJ w.heap.size [] (w.alloc (.map #[] 0)):=⟨#[],heap_alloc_new _ _,rfl,λi e h=>by simp at h⟩
theorem Sf(p q:Int×List UInt8)(w:World):(Op.equal 301 (pP p) (pP q)).run prog w = .ok (decide (p=q)) w:=by
 obtain⟨n,a⟩:=p;obtain⟨m,b⟩:=q;have u3:=underlying3;have a3:=isAgg3;have z3:=sizeOf3;have u9:=underlying9;have a9:=isAgg9;have z9:=sizeOf9;have hS:prog.underlying 301=some (.struct (prog.fieldsOf 301)):=by kernel_rfl
 have hp:prog.stoodInHeld 301=false:=by kernel_rfl
 show (Op.equalIn 10000 301 (.agg #[.int .i64 n,.string ⟨a.toArray⟩]) (.agg #[.int .i64 m,.string ⟨b.toArray⟩])).run prog w=_;rw[show (10000:Nat)=9999+1 from rfl,run_equalIn_agg w 9999 301 _ _ hS hp];simp only[Program.fieldsOf,underlying301];go_simp;by_cases h0:a=b <;> by_cases h1:n=m <;> simp[h0,h1]
theorem J0(b:Bool)(p:Int×List UInt8)(w:World):(Instr.checkKey b 10000 301 (pP p)).run prog w = .ok () w:=by
 have hS:=underlying301;have hs:∀ s w,(Instr.checkKey b 9999 9 (.string s)).run prog w = .ok () w:=λs w=>MapKept.run_checkKey (k:=.string s) underlying9 (by simp[MapKept.IsKey]) b 9998;have hi:∀ n w,(Instr.checkKey b 9999 3 (.int .i64 n)).run prog w = .ok () w:=λn w=>MapKept.run_checkKey (k:=.int .i64 n) underlying3 (by simp[MapKept.IsKey]) b 9998;have a3:=isAgg3;have z3:=sizeOf3;have a9:=isAgg9;have z9:=sizeOf9;rw[show (10000:Nat)=9999+1 from rfl,Instr.checkKey];simp only[pP,ay];simp[run_underlying hS,go_sem,Result.andThen,hs,hi]
theorem Sn{fs:Array Field}{k:Value}{e:MapEntry}{es:List MapEntry}(i:Nat):Instr.findNow (.struct fs) k (e::es) i=none:=by
 simp only[Instr.findNow];rfl
theorem JN(p:Int×List UInt8)(w:World):∀ (es:List MapEntry) (kvs:List ((Int×List UInt8)×Value)) (i:Nat),es.map (λe=>(e.key,e.val))=kvs.map (λq=>(pP q.1,q.2))->
 (∀ v,kvs.lookup p=some v->∃ j,(es[j]?).map (λe=>(e.key,e.val))=some (pP p,v)/\kvs[j]?=some (p,v)/\(Instr.findAsking 301 (pP p) es i).run prog w = .ok (some (i+j,v)) w)/\(kvs.lookup p=none->(Instr.findAsking 301 (pP p) es i).run prog w = .ok none w)
 | [],kvs,i,h=>by
   cases kvs with
   | nil=>exact⟨λv h=>by simp at h,λ_=>by rw[Instr.findAsking];rfl⟩
   | cons=>simp at h
 | e::es,kvs,i,h=>by
   cases kvs with
   | nil=>simp at h
   | cons q kvs=>
    obtain⟨q,u⟩:=q;simp only[List.map_cons,List.cons.injEq,Prod.mk.injEq] at h;obtain⟨⟨h1,h2⟩,h3⟩:=h;obtain⟨i1,i2⟩:=JN p w es kvs (i+1) h3;have hq:=Sf p q w;rw[<-h1] at hq;by_cases qj:p=q
    ·have hd:decide (p=q)=true:=by simpa using qj
     rw[hd] at hq;have hr:(Instr.findAsking 301 (pP p) (e::es) i).run prog w = .ok (some (i,u)) w:=by
      rw[Instr.findAsking];simp[hq,h2]
     subst qj;refine⟨λv hv=>⟨0,?_,?_,?_⟩,λhn=>?_⟩
     ·rw[List.lookup_cons_self] at hv;cases hv;simp[h1,h2]
     ·rw[List.lookup_cons_self] at hv;cases hv;rfl
     ·rw[List.lookup_cons_self] at hv;cases hv;exact hr
     ·rw[List.lookup_cons_self] at hn;cases hn
    ·have hd:decide (p=q)=false:=by simpa using qj
     rw[hd] at hq;have hb:(p == q)=false:=by simpa using qj
     have hr:(Instr.findAsking 301 (pP p) (e::es) i).run prog w=(Instr.findAsking 301 (pP p) es (i+1)).run prog w:=by
      rw[Instr.findAsking];simp[hq]
     have hl:((q,u)::kvs).lookup p=kvs.lookup p:=by rw[List.lookup_cons,hb]
     rw[hr,hl];refine⟨λv hv=>?_,i2⟩;obtain⟨j,j1,j2,j3⟩:=i1 v hv;exact⟨j+1,by simpa using j1,by simpa using j2,by rw[show i+(j+1)=i+1+j by omega];exact j3⟩
theorem Ko(p:Int×List UInt8)(w:World)(es:List MapEntry)(kvs:List ((Int×List UInt8)×Value))(h:es.map (λe=>(e.key,e.val))=kvs.map (λq=>(pP q.1,q.2))) :
 (∀ v,kvs.lookup p=some v->∃ j,(es[j]?).map (λe=>(e.key,e.val))=some (pP p,v)/\kvs[j]?=some (p,v)/\(Instr.findKey 301 (pP p) es).run prog w = .ok (some (j,v)) w)/\(kvs.lookup p=none->(Instr.findKey 301 (pP p) es).run prog w = .ok none w):=by
 have hS:=underlying301
 cases es with
 | nil=>
  cases kvs with
  | nil=>exact⟨λv h=>by simp at h,λ_=>by simp[Instr.findKey,run_underlying hS,Instr.findNow]⟩
  | cons=>simp at h
 | cons e es=>
  obtain⟨i1,i2⟩:=JN p w (e::es) kvs 0 h;have hr:(Instr.findKey 301 (pP p) (e::es)).run prog w=(Instr.findAsking 301 (pP p) (e::es) 0).run prog w:=by
   simp[Instr.findKey,run_underlying hS,Sn]
  rw[hr];refine⟨λv hv=>?_,i2⟩;obtain⟨j,j1,j2,j3⟩:=i1 v hv;exact⟨j,j1,j2,by rw[j3,Nat.zero_add]⟩
theorem Yz(w:World)(t et:TypeId)(ht:prog.underlying t=some (.map 301 et))(r:Nat)(kvs:List ((Int×List UInt8)×Value))(hr:iJ r kvs w)(p:Int×List UInt8)(z:Value)(hz:(zeroValue et).run prog w = .ok z w) :
 (Instr.lookup t (.map (some r)) (pP p) false).run prog w = .ok ((kvs.lookup p).getD z) w:=by
 obtain⟨es,hr,he,_⟩:=hr;have hf:=Ko p w es.toList kvs he;have hc:∀ b,(Instr.checkKey b 10000 301 (pP p)).run prog w = .ok () w:=λb=>J0 b p w
 cases hl:kvs.lookup p with
 | none=>simp[Instr.lookup,run_underlying ht,MapKept.run_getObj_map hr,hc,hf.2 hl,Result.andThen,hz]
 | some v=>
  obtain⟨j,_,_,hj⟩:=hf.1 v hl;simp[Instr.lookup,run_underlying ht,MapKept.run_getObj_map hr,hc,hj,Result.andThen]
theorem Z4{ops:Array Oper}{rest:List Oper}{o:Oper}{a:Act}{Q:Exit->Act->World->Prop}(w:World)(hg:o.guard=none)(m x v:Operand)(t:TypeId)(gj:o.op=Op.mapUpdate t m x v)(et:TypeId)(ht:prog.underlying t=some (.map 301 et))
 (r:Nat) (kvs:List ((Int×List UInt8)×Value)) (hm:a.eval m = .map (some r)) (hr:iJ r kvs w) (p:Int×List UInt8) (hx:a.eval x=pP p) (val:Value) (hv:a.eval v=val) (fw:kvs.lookup p=none)
 (hK:∀ w',iJ r (kvs ++ [(p,val)]) w'->Turned r w w'->wpList prog ops Q rest (a.put o.dst undef) w'):wpList prog ops Q (o::rest) a w:=by
 obtain⟨es,hr,he,jX⟩:=hr;have hf:=(Ko p w es.toList kvs he).2 fw;refine wpList_plain hg λK' hK'=>?_;have hc:(Instr.checkKey false 10000 301 (pP p)).run prog w = .ok () w:=J0 false p w;have cH:(Instr.mapUpdate t (.map (some r)) (pP p) val).run prog w = .ok () { w with heap:=w.heap.setIfInBounds r (.map (es.push { key:=pP p,val:=val,born:=es.size }) (es.size+1)) }:=by
  simp[Instr.mapUpdate,run_underlying ht,MapKept.run_getObj_map hr,hc,hf,MapKept.run_setObj_map _ hr,Result.andThen]
 unfold Oper.wp;simp[execOp,gj,hm,hx,hv,cH,Result.andThen];have hl:r<w.heap.size:=(eQ.1 hr).1;refine hK' _ _ (hK _ ⟨es.push { key:=pP p,val:=val,born:=es.size },by simp[hl],by simp[he],λi e hi=>?_⟩ ⟨rfl,rfl,rfl,by simp,λi hi=>by simp[Ne.symm hi]⟩);rw[Array.getElem?_push] at hi;split at hi
 ·rename_i h1;cases hi;exact h1.symm
 ·exact jX i e hi
def pH(p:Int×List UInt8):Value:=.agg #[.int .i64 p.1,ay p.2]
def mE(r:Nat)(kvs:List ((Int×List UInt8)×Value))(w:World):Prop:=∃ es,w.heap[r]?=some (.map es es.size)/\es.toList.map (λe=>(e.key,e.val))=kvs.map (λp=>(pH p.1,p.2))/\∀ (i:Nat) (e:MapEntry),es[i]?=some e->e.born=i
theorem mE.lt{r:Nat}{kvs:List ((Int×List UInt8)×Value)}{w:World}(h:mE r kvs w):r<w.heap.size:=by
 obtain⟨es,h,_⟩:=h;exact (eQ.1 h).1
theorem mE.keep{r:Nat}{kvs:List ((Int×List UInt8)×Value)}{w w':World}{n:Nat}(h:mE r kvs w)(hb:Below n w w')(hn:r<n):mE r kvs w':=by
 obtain⟨es,h,h2⟩:=h;exact⟨es,(hb.block r hn).trans h,h2⟩
theorem mE.keep'{r:Nat}{kvs:List ((Int×List UInt8)×Value)}{w w':World}(h:mE r kvs w)(hb:w'.heap[r]?=w.heap[r]?):mE r kvs w':=by
 obtain⟨es,h,h2⟩:=h;exact⟨es,hb.trans h,h2⟩
theorem mE.made(w:World):mE w.heap.size [] (w.alloc (.map #[] 0)):=⟨#[],heap_alloc_new _ _,rfl,λi e h=>by simp at h⟩
theorem Se(p q:Int×List UInt8)(w:World):(Op.equal 186 (pH p) (pH q)).run prog w = .ok (decide (p=q)) w:=by
 obtain⟨n,a⟩:=p;obtain⟨m,b⟩:=q;have u3:=underlying3;have a3:=isAgg3;have z3:=sizeOf3;have u9:=underlying9;have a9:=isAgg9;have z9:=sizeOf9;have hS:prog.underlying 186=some (.struct (prog.fieldsOf 186)):=by kernel_rfl
 have hp:prog.stoodInHeld 186=false:=by kernel_rfl
 show (Op.equalIn 10000 186 (.agg #[.int .i64 n,.string ⟨a.toArray⟩]) (.agg #[.int .i64 m,.string ⟨b.toArray⟩])).run prog w=_;rw[show (10000:Nat)=9999+1 from rfl,run_equalIn_agg w 9999 186 _ _ hS hp];simp only[Program.fieldsOf,underlying186];go_simp;by_cases h0:a=b <;> by_cases h1:n=m <;> simp[h0,h1]
theorem RB(b:Bool)(p:Int×List UInt8)(w:World):(Instr.checkKey b 10000 186 (pH p)).run prog w = .ok () w:=by
 have hS:=underlying186;have hs:∀ s w,(Instr.checkKey b 9999 9 (.string s)).run prog w = .ok () w:=λs w=>MapKept.run_checkKey (k:=.string s) underlying9 (by simp[MapKept.IsKey]) b 9998;have hi:∀ n w,(Instr.checkKey b 9999 3 (.int .i64 n)).run prog w = .ok () w:=λn w=>MapKept.run_checkKey (k:=.int .i64 n) underlying3 (by simp[MapKept.IsKey]) b 9998;have a3:=isAgg3;have z3:=sizeOf3;have a9:=isAgg9;have z9:=sizeOf9;rw[show (10000:Nat)=9999+1 from rfl,Instr.checkKey];simp only[pH,ay];simp[run_underlying hS,go_sem,Result.andThen,hs,hi]
theorem Sm{fs:Array Field}{k:Value}{e:MapEntry}{es:List MapEntry}(i:Nat):Instr.findNow (.struct fs) k (e::es) i=none:=by
 simp only[Instr.findNow];rfl
theorem JM(p:Int×List UInt8)(w:World):∀ (es:List MapEntry) (kvs:List ((Int×List UInt8)×Value)) (i:Nat),es.map (λe=>(e.key,e.val))=kvs.map (λq=>(pH q.1,q.2))->
 (∀ v,kvs.lookup p=some v->∃ j,(es[j]?).map (λe=>(e.key,e.val))=some (pH p,v)/\kvs[j]?=some (p,v)/\(Instr.findAsking 186 (pH p) es i).run prog w = .ok (some (i+j,v)) w)/\(kvs.lookup p=none->(Instr.findAsking 186 (pH p) es i).run prog w = .ok none w)
 | [],kvs,i,h=>by
   cases kvs with
   | nil=>exact⟨λv h=>by simp at h,λ_=>by rw[Instr.findAsking];rfl⟩
   | cons=>simp at h
 | e::es,kvs,i,h=>by
   cases kvs with
   | nil=>simp at h
   | cons q kvs=>
    obtain⟨q,u⟩:=q;simp only[List.map_cons,List.cons.injEq,Prod.mk.injEq] at h;obtain⟨⟨h1,h2⟩,h3⟩:=h;obtain⟨i1,i2⟩:=JM p w es kvs (i+1) h3;have hq:=Se p q w;rw[<-h1] at hq;by_cases qj:p=q
    ·have hd:decide (p=q)=true:=by simpa using qj
     rw[hd] at hq;have hr:(Instr.findAsking 186 (pH p) (e::es) i).run prog w = .ok (some (i,u)) w:=by
      rw[Instr.findAsking];simp[hq,h2]
     subst qj;refine⟨λv hv=>⟨0,?_,?_,?_⟩,λhn=>?_⟩
     ·rw[List.lookup_cons_self] at hv;cases hv;simp[h1,h2]
     ·rw[List.lookup_cons_self] at hv;cases hv;rfl
     ·rw[List.lookup_cons_self] at hv;cases hv;exact hr
     ·rw[List.lookup_cons_self] at hn;cases hn
    ·have hd:decide (p=q)=false:=by simpa using qj
     rw[hd] at hq;have hb:(p == q)=false:=by simpa using qj
     have hr:(Instr.findAsking 186 (pH p) (e::es) i).run prog w=(Instr.findAsking 186 (pH p) es (i+1)).run prog w:=by
      rw[Instr.findAsking];simp[hq]
     have hl:((q,u)::kvs).lookup p=kvs.lookup p:=by rw[List.lookup_cons,hb]
     rw[hr,hl];refine⟨λv hv=>?_,i2⟩;obtain⟨j,j1,j2,j3⟩:=i1 v hv;exact⟨j+1,by simpa using j1,by simpa using j2,by rw[show i+(j+1)=i+1+j by omega];exact j3⟩
theorem Sk(p:Int×List UInt8)(w:World)(es:List MapEntry)(kvs:List ((Int×List UInt8)×Value))(h:es.map (λe=>(e.key,e.val))=kvs.map (λq=>(pH q.1,q.2))) :
 (∀ v,kvs.lookup p=some v->∃ j,(es[j]?).map (λe=>(e.key,e.val))=some (pH p,v)/\kvs[j]?=some (p,v)/\(Instr.findKey 186 (pH p) es).run prog w = .ok (some (j,v)) w)/\(kvs.lookup p=none->(Instr.findKey 186 (pH p) es).run prog w = .ok none w):=by
 have hS:=underlying186
 cases es with
 | nil=>
  cases kvs with
  | nil=>exact⟨λv h=>by simp at h,λ_=>by simp[Instr.findKey,run_underlying hS,Instr.findNow]⟩
  | cons=>simp at h
 | cons e es=>
  obtain⟨i1,i2⟩:=JM p w (e::es) kvs 0 h;have hr:(Instr.findKey 186 (pH p) (e::es)).run prog w=(Instr.findAsking 186 (pH p) (e::es) 0).run prog w:=by
   simp[Instr.findKey,run_underlying hS,Sm]
  rw[hr];refine⟨λv hv=>?_,i2⟩;obtain⟨j,j1,j2,j3⟩:=i1 v hv;exact⟨j,j1,j2,by rw[j3,Nat.zero_add]⟩
end
section
open Go.RowKit
section
variable {P:Program} (w:World)
theorem Yy(base:Nat)(t u ty e:TypeId)(i:TypeInfo)(ht:P.underlying t=some (.slice e))(hu:P.underlying u=some .string)(hi:P.info? e=some i)(hz:i.zero=some (.int .u8 0))
 (kC:i.size=1) (gw:i.bytes=1) (v:Value) (n:Nat) (xs:List Value) (hown:w.ownsRow base e 1 v n xs) (s:ByteArray) (jj:n+s.size<=maxLen) (l5:n+s.size<=140737488355328) (cW:base<=w.heap.size) :
 ∃ v' w',(Builtin.append_ #[t,u] ty #[v,.string s]).run P w = .ok v' w'/\w'.ownsRow base e 1 v' (n+s.size) (xs++Lib.strCells s)/\w.grownBy w' v.ownBlock/\(v'.ownBlock=v.ownBlock\/v'.ownBlock=some w.heap.size)/\(v' = .slice none 0 0↔v = .slice none 0 0/\s.size=0):=by
 obtain⟨v',w',cH,h2,h3,h4⟩:=Lib.run_append_own_string (P:=P) w base t u ty e i ht hu hi hz kC gw v n xs hown s jj l5 cW;refine⟨v',w',cH,h2,h3,?_,h4⟩;have anQ:n+s.size<=9223372036854775807:=by simp only[maxLen] at jj;omega
 rcases hown.2 with ⟨rfl,rfl⟩ | ⟨g,cap,cur,rfl,K1,hg,ky,eY,hcs,U7⟩
 ·by_cases hm:s.size=0
  ·exact .inl (by rw[h4.2 ⟨rfl,hm⟩])
  ·have hr:=run_append_nil_string (P:=P) w t u ty e i (.int .u8 0) ht hu hi hz s (by omega) (by omega) (by rw[gw];omega);rw[hr] at cH;injection cH with h5 _
   exact .inr (by rw[<-h5];rfl)
 ·by_cases US:n+s.size<=cap
  ·have hr:=Lib.run_append_room_string (P:=P) w t u ty e i ht hu hi kC g n cap cur hg s US (by omega);rw[hr] at cH;injection cH with h5 _
   exact .inl (by rw[<-h5];rfl)
  ·have holds:∀ j u,xs[j]?=some u->w.cell? ((⟨g,0,none⟩:Addr).add j)=some u:=hown.cells (g:=g) rfl;have hr:=Lib.run_append_grow_string (P:=P) w t u ty e i (.int .u8 0) ht hu hi hz ⟨g,0,none⟩ n cap xs (by rw[kC];exact hown.1) holds s (by omega) (by omega) (by rw[gw];exact growslice_fits (by omega) (by omega));rw[hr] at cH;injection cH with h5 _
   exact .inr (by rw[<-h5];rfl)
theorem ZY{ops:Array Oper}{rest:List Oper}{o:Oper}{a:Act}{Q:Exit->Act->World->Prop}(fJ:o.guard=none)(sl x:Operand)(t u:TypeId)
 (ho:o.op = .call { callee:=.builtin .append,args:=#[sl,x],argTypes:=#[t,u] })
 (base:Nat) (e:TypeId) (i:TypeInfo) (ht:P.underlying t=some (.slice e)) (hu:P.underlying u=some .string) (hi:P.info? e=some i) (hz:i.zero=some (.int .u8 0)) (kC:i.size=1) (gw:i.bytes=1)
 (v:Value) (n:Nat) (xs:List Value) (hs:a.eval sl=v) (hown:w.ownsRow base e 1 v n xs) (s:ByteArray) (hx:a.eval x = .string s) (jj:n+s.size<=maxLen) (l5:n+s.size<=140737488355328) (cW:base<=w.heap.size)
 (h:∀ v' w',w'.ownsRow base e 1 v' (n+s.size) (xs++Lib.strCells s)->w.grownBy w' v.ownBlock->(v'.ownBlock=v.ownBlock\/v'.ownBlock=some w.heap.size)->(v' = .slice none 0 0↔v = .slice none 0 0/\s.size=0)->wpList P ops Q rest (a.put o.dst v') w'):wpList P ops Q (o::rest) a w:=by
 obtain⟨v',w',hr,h2,h3,h4,h5⟩:=Yy (P:=P) w base t u o.type e i ht hu hi hz kC gw v n xs hown s jj l5 cW;refine wpList_plain fJ λK hK=>?_;unfold Oper.wp execOp;simp only[ho,resolve,invoke,builtin,Sem.run_bind,Sem.run_pure,Result.andThen_ok,List.map_toArray,List.map_cons,List.map_nil,hs,hx,hr];exact hK _ _ (h v' w' h2 h3 h4 h5)
end
theorem Tryz.infoByte:(prog.info? 5).map (λi=>(i.zero,i.size,i.bytes))=some (some (.int .u8 0),1,1):=by kernel_rfl
structure BldT(T:TypeId):Prop where
 lies:liesAt prog prog.depth T (2 / prog.cellsOf T) 0 198 1=true
 ne:T≠5
def Bld(T:TypeId)(B b:Nat)(r:Option Nat)(l:List UInt8)(w:World):Prop:=
 ∃ p v,(p = .pointer none\/p = .pointer (some ⟨b,0,none⟩))/\B<=b/\w.heap[b]?=some (.cells #[p,v] T (0,0))/\w.ownsRow B 5 1 v l.length (Lib.byteCells l)/\v.ownBlock=r/\r≠some b/\(l = []->v = .slice none 0 0)
structure BS(b:Nat)(r:Option Nat)(w:World)(r':Option Nat)(w':World):Prop where
 os:w'.os=w.os
 tape:w'.tape=w.tape
 output:w'.output=w.output
 size:w.heap.size<=w'.heap.size
 keep:∀ k,k<w.heap.size->k≠b->r≠some k->w'.heap[k]?=w.heap[k]?
 at_:r'=r\/∃ k,w.heap.size<=k/\r'=some k
theorem BS.refl(b:Nat)(r:Option Nat)(w:World):BS b r w r w:=⟨rfl,rfl,rfl,bQ _,λ_ _ _ _=>rfl,.inl rfl⟩
theorem BS.trans{b:Nat}{r r' r'':Option Nat}{w w' w'':World}(h:BS b r w r' w')(k:BS b r' w' r'' w''):BS b r w r'' w'':=by
 refine⟨k.os.trans h.os,k.tape.trans h.tape,k.output.trans h.output,yQ h.size k.size,λi hi hb hr=>?_,?_⟩
 ·refine (k.keep i (lQ hi h.size) hb (λe=>?_)).trans (h.keep i hi hb hr);rcases h.at_ with e' | ⟨j,hj,e'⟩
  ·rw[e'] at e;exact hr e
  ·rw[e'] at e;simp at e;omega
 ·rcases k.at_ with e | ⟨j,hj,e⟩
  ·rcases h.at_ with e' | ⟨j,hj,e'⟩
   ·exact .inl (e.trans e')
   ·exact .inr ⟨j,hj,e.trans e'⟩
  ·exact .inr ⟨j,yQ h.size hj,e⟩
theorem BS.of_below{b:Nat}{r:Option Nat}{w w':World}(h:Below w.heap.size w w'):BS b r w r w':=⟨h.os,h.tape,h.output,h.size,λk hk _ _=>h.block k hk,.inl rfl⟩
theorem BS.after{b:Nat}{r r':Option Nat}{w w' w'':World}(h:BS b r w r' w')(k:Below w'.heap.size w' w''):BS b r w r' w'':=h.trans (BS.of_below k)
theorem BS.below{b:Nat}{r r':Option Nat}{w w':World}{n:Nat}(h:BS b r w r' w')(hb:n<=b)(hr:∀ k,r=some k->n<=k)(hn:n<=w.heap.size):Below n w w':=
 ⟨h.os,h.tape,h.output,h.size,λk hk=>h.keep k (by omega) (by omega) (λe=>by have:=hr k e;omega)⟩
theorem BS.cell{b:Nat}{r r':Option Nat}{w w':World}(h:BS b r w r' w'){k:Nat}(hk:k<w.heap.size)(hb:k≠b)(hr:r≠some k)(o:Nat):w'.cell? ⟨k,o,none⟩=w.cell? ⟨k,o,none⟩:=iQ (w:=w) (h.keep k hk hb hr)
theorem BS.free{b:Nat}{r r':Option Nat}{w w':World}(h:BS b r w r' w'){k:Nat}(hk:k<w.heap.size)(hr:r≠some k):r'≠some k:=λe=>by
 rcases h.at_ with e' | ⟨j,hj,e'⟩
 ·rw[e'] at e;exact hr e
 ·rw[e'] at e;simp at e;omega
theorem Bld.row{T:TypeId}{B b:Nat}{r:Option Nat}{l:List UInt8}{w:World}(h:Bld T B b r l w):B<=b/\b<w.heap.size/\∀ k,r=some k->B<=k/\k<w.heap.size:=by
 obtain⟨p,v,_,hB,hb,ho,rfl,_,_⟩:=h;exact⟨hB,(eQ.1 hb).1,λk hk=>ho.lt k hk⟩
theorem Bld.keep{T:TypeId}{B b:Nat}{r:Option Nat}{l:List UInt8}{w w':World}(h:Bld T B b r l w)(hb:Below w.heap.size w w'):Bld T B b r l w':=by
 have hrow:=h.row;obtain⟨p,v,hp,hB,hh,ho,rfl,hne,hn⟩:=h;refine⟨p,v,hp,hB,(hb.block b hrow.2.1).trans hh,cM ho (λg hg=>hb.block g (hrow.2.2 g hg).2),rfl,hne,hn⟩
theorem Bld.fresh(T:TypeId)(w:World):Bld T w.heap.size w.heap.size none [] (w.alloc (.cells #[.pointer none,.slice none 0 0] T)):=
 ⟨_,_,.inl rfl,bQ _,heap_alloc_new w _,World.ownsRow_nil _ _ _ _,rfl,by simp,λ_=>rfl⟩
theorem W9{w:World}{base:Nat}{e T:TypeId}{v:Value}{n:Nat}{xs:List Value}{b:Nat}{cs:Array Value}{fr:Nat×Nat}(ho:w.ownsRow base e 1 v n xs)(hb:w.heap[b]?=some (.cells cs T fr))(hT:T≠e):v.ownBlock≠some b:=by
 intro h;rcases ho.2 with ⟨rfl,_⟩ | ⟨g,cap,cur,rfl,_,hg,_⟩
 ·cases h
 ·have:g=b:=Option.some.inj h
  subst this;rw[hb] at hg;simp only[Option.some.injEq,Obj.cells.injEq] at hg;exact hT hg.2.1
theorem Rr:prog.cellsOf 5=1:=by kernel_rfl
theorem NV:(prog.info? 198).map (·.size)=some 2:=by kernel_rfl
theorem RR(b:Nat)(w:World)(h0:w.cell? ⟨b,0,none⟩=some (.pointer (some ⟨b,0,none⟩))) :
 Calls prog 210 #[.pointer (some ⟨b,0,none⟩)] w λe w'=>e = .returned (.tuple #[])/\w'=w:=by
 obtain⟨j,hj,_⟩:=Option.map_eq_some_iff.1 NV;go_enter func210,ntmps210;go_wp2;rw[Lib.run_neq_ptr_same w _ underlying195 hj];go_wp2;go_end0;exact⟨rfl,rfl⟩
theorem RQ{T:TypeId}(hT:BldT T)(b:Nat)(w:World)(h0:w.cell? ⟨b,0,none⟩=some (.pointer none))(LW:w.shape? b=some (T,2))(tu:w.frozen? ⟨b,0,none⟩=false) :
 Calls prog 210 #[.pointer (some ⟨b,0,none⟩)] w λe w'=>e = .returned (.tuple #[])/\w'=w.setCell ⟨b,0,none⟩ (.pointer (some ⟨b,0,none⟩)):=by
 obtain⟨j,hj,yV⟩:=Option.map_eq_some_iff.1 NV;go_enter func210,ntmps210;go_wp2;rw[Lib.run_to_unsafe w ⟨b,0,none⟩ underlying195 underlying325 hj (by rw[yV];decide) LW (Nat.zero_lt_succ 1)];simp only[Result.andThen];rw[Oper.upon_value];go_wp2;rw[run_callFunc_extern func283 (by kernel_rfl) (by kernel_rfl) (by kernel_rfl) (e:=Extern.AbiNoEscape.same) (by kernel_rfl)];rw[Lib.run_noEscape];simp only[Result.andThen];rw[Oper.upon_value];go_wp2;rw[Lib.run_from_unsafe w ⟨b,0,none⟩ underlying325 underlying195 hj LW hT.lies];simp only[Result.andThen];rw[Oper.upon_value];go_wp2;go_end0;exact⟨rfl,rfl⟩
def Used(T:TypeId)(B b:Nat)(r:Option Nat)(l:List UInt8)(w:World):Prop:=
 ∃ v,B<=b/\w.heap[b]?=some (.cells #[.pointer (some ⟨b,0,none⟩),v] T (0,0))/\w.ownsRow B 5 1 v l.length (Lib.byteCells l)/\v.ownBlock=r/\r≠some b/\(l = []->v = .slice none 0 0)
theorem Ka{T:TypeId}(hT:BldT T)(B b:Nat)(r:Option Nat)(l:List UInt8)(w:World)(h:Bld T B b r l w) :
 Calls prog 210 #[.pointer (some ⟨b,0,none⟩)] w λe w'=>e = .returned (.tuple #[])/\Used T B b r l w'/\BS b r w r w':=by
 obtain⟨p,v,hp,hB,hb,ho,hr,hne,hn⟩:=h;have aa:=(eQ.1 hb).1;rcases hp with rfl | rfl
 ·refine (RQ hT b w (by rw[Lib.cell_of_heap hb];rfl) (by simp[World.shape?,hb]) (Lib.frozen_of_heap hb 0)).mono ?_;rintro e w' ⟨rfl,rfl⟩;refine⟨rfl,⟨v,hB,?_,?_,hr,hne,hn⟩,⟨rfl,rfl,rfl,by simp[World.setCell],λk _ hk _=>wQ _ _ _ _ hk,.inl rfl⟩⟩
  ·simp[World.setCell,Array.getElem?_modify,hb]
  ·exact cM ho (λg hg=>wQ _ _ _ _ (λe=>by rw[hr] at hg;exact hne (by rw[hg];simpa using e)))
 ·refine (RR b w (by rw[Lib.cell_of_heap hb];rfl)).mono ?_;rintro e w' ⟨rfl,rfl⟩;exact⟨rfl,⟨v,hB,hb,ho,hr,hne,hn⟩,BS.refl _ _ _⟩
theorem Ov{T:TypeId}(hT:BldT T){B b:Nat}{r:Option Nat}{w1 w2:World}{v v':Value}{l':List UInt8}(hB:B<=b)(ab:w2.heap[b]?=some (.cells #[.pointer (some ⟨b,0,none⟩),v] T (0,0)))
 (ho:w2.ownsRow B 5 1 v' l'.length (Lib.byteCells l')) (al:w1.heap.size<=w2.heap.size) (qd:∀ k,k<w1.heap.size->k≠b->r≠some k->w2.heap[k]?=w1.heap[k]?) (rC:w2.os=w1.os/\w2.tape=w1.tape/\w2.output=w1.output)
 (hat:v'.ownBlock=r\/∃ k,w1.heap.size<=k/\v'.ownBlock=some k) (hn:l' = []->v' = .slice none 0 0) :
 Bld T B b v'.ownBlock l' (w2.setCell ⟨b,1,none⟩ v')/\BS b r w1 v'.ownBlock (w2.setCell ⟨b,1,none⟩ v'):=by
 have hne:=W9 ho ab hT.ne;refine⟨⟨_,v',.inr rfl,hB,?_,?_,rfl,hne,hn⟩,⟨rC.1,rC.2.1,rC.2.2,by simpa [World.setCell] using al,λk hk h1 h2=>(wQ _ _ _ _ h1).trans (qd k hk h1 h2),hat⟩⟩
 ·simp[World.setCell,Array.getElem?_modify,ab]
 ·exact cM ho (λg hg=>wQ _ _ _ _ (λe=>hne (by rw[hg];simpa using e)))
def AC(T:TypeId)(B b:Nat)(r:Option Nat)(l:List UInt8)(v:Value)(w:World)(e:Ending)(w':World):Prop:=e = .returned v/\∃ r',Bld T B b r' l w'/\BS b r w r' w'
theorem Z7{T:TypeId}(hT:BldT T)(B b:Nat)(r:Option Nat)(l:List UInt8)(c:UInt8)(w:World)(h:Bld T B b r l w)(hl:l.length<=100000000)(gP:B<=w.heap.size) :
 Calls prog 130 #[.pointer (some ⟨b,0,none⟩),.int .u8 c.toNat] w (AC T B b r (l ++ [c]) .nilIface w):=by
 obtain⟨i0,hi,dI,bg,aO⟩:=info_parts Tryz.infoByte;have H:=jq h;clear h;go_enter func130,ntmps130;go_wp2_with fail;refine (Ka hT B b r l _ H.out).mono ?_;rintro e w1 ⟨rfl,⟨v,hB,pU,hown,hr,hne,_⟩,bd⟩;have c1:w1.cell? ⟨b,1,none⟩=some v:=by rw[Lib.cell_of_heap pU];rfl
 have aa:b<w1.heap.size:=(eQ.1 pU).1;have HO:=jq hown;have wF:=jq pU;have HR:=jq hr;have eV:=jq bd;have tP:=bd.size;clear hown pU hr bd;go_wp2_with (at_builtin;refine wpList_append_own_at _ rfl _ _ 196 rfl B 5 i0 (.int .u8 0) 1 1 underlying196 hi dI bg aO rfl (by decide) _ _ _ rfl (HO.out.alloc _) ⟨w1.heap.size,0,none⟩ 1 1 [.int .u8 c.toNat] rfl rfl (cell_one_new _ _ _) (by simp[Value.oneCell']) (by unfold maxLen;omega) (by omega) (by simp;omega) ?_;intro v' w2 jo mR Cs hat;have H2:=jq (And.intro jo (And.intro mR hat));clear jo mR hat Cs;have ab:w2.heap[b]?=some (.cells #[.pointer (some ⟨b,0,none⟩),v] T (0,0)):=(by rw[H2.out.2.1.block b (by simp;omega) (λe=>hne (HR.out.symm.trans e.symm)),Lib.alloc_old w1 _ b aa];exact wF.out);have d1:w2.cell? ⟨b,1,none⟩=some v:=(by rw[Lib.cell_of_heap ab];rfl);have f1:w2.frozen? ⟨b,1,none⟩=false:=Lib.frozen_of_heap ab 1;have ai:=jq ab;clear ab;obtain⟨ao,cap,rfl⟩:=qz H2.out.1);go_ret;obtain⟨o2,g2,a2⟩:=H2.out;have rg:=Ov hT (r:=r) (w1:=w1) (l':=l ++ [c]) hB ai.out (by simpa [Lib.byteCells] using o2) (by have:=g2.size;simp at this;omega) (λk hk h1 h2=>by rw[g2.block k (by simp;omega) (λe=>h2 (HR.out.symm.trans e.symm)),Lib.alloc_old w1 _ k hk]) ⟨g2.os,g2.tape,g2.output⟩ (by
  rcases a2 with a2 | a2
  ·exact .inl (a2.trans HR.out)
  ·exact .inr ⟨_,by simp,a2⟩) (by simp)
 exact⟨rfl,_,rg.1,eV.out.trans rg.2⟩
theorem OJ{T:TypeId}(hT:BldT T)(B b:Nat)(r:Option Nat)(l:List UInt8)(s:ByteArray)(w:World)(h:Bld T B b r l w)(hl:l.length<=100000000)(hs:s.size<=100000000)(gP:B<=w.heap.size) :
 Calls prog 129 #[.pointer (some ⟨b,0,none⟩),.string s] w (AC T B b r (l++s.data.toList) (.tuple #[.int .i64 s.size,.nilIface]) w):=by
 obtain⟨i0,hi,dI,bg,aO⟩:=info_parts Tryz.infoByte;have H:=jq h;clear h;go_enter func129,ntmps129;go_wp2_with fail;refine (Ka hT B b r l _ H.out).mono ?_;rintro e w1 ⟨rfl,⟨v,hB,pU,hown,hr,hne,Cs⟩,bd⟩;have c1:w1.cell? ⟨b,1,none⟩=some v:=by rw[Lib.cell_of_heap pU];rfl
 have aa:b<w1.heap.size:=(eQ.1 pU).1;have HO:=jq hown;have wF:=jq pU;have HR:=jq hr;have eV:=jq bd;have HN:=jq Cs;have tP:=bd.size;clear hown pU hr bd Cs;go_wp2_with (at_builtin;refine ZY _ rfl _ _ 196 9 rfl B 5 i0 underlying196 underlying9 hi dI bg aO _ _ _ rfl HO.out s rfl (by unfold maxLen;omega) (by omega) (by omega) ?_;intro v' w2 jo mR hat tI;have H2:=jq (And.intro jo (And.intro mR hat));have fE:=jq tI;clear jo mR hat tI;have ab:w2.heap[b]?=some (.cells #[.pointer (some ⟨b,0,none⟩),v] T (0,0)):=(by rw[H2.out.2.1.block b aa (λe=>hne (HR.out.symm.trans e.symm))];exact wF.out);have d1:w2.cell? ⟨b,1,none⟩=some v:=(by rw[Lib.cell_of_heap ab];rfl);have f1:w2.frozen? ⟨b,1,none⟩=false:=Lib.frozen_of_heap ab 1;have ai:=jq ab;clear ab;obtain⟨ao,cap,rfl⟩:=qz H2.out.1);go_ret2;obtain⟨o2,g2,a2⟩:=H2.out;have rg:=Ov hT (r:=r) (w1:=w1) (l':=l++s.data.toList) hB ai.out (by simpa [Lib.byteCells,Lib.strCells] using o2) g2.size (λk hk h1 h2=>g2.block k hk (λe=>h2 (HR.out.symm.trans e.symm))) ⟨g2.os,g2.tape,g2.output⟩ (by
  rcases a2 with a2 | a2
  ·exact .inl (a2.trans HR.out)
  ·exact .inr ⟨_,bQ _,a2⟩) (by
  intro h0;have h1:=List.append_eq_nil_iff.1 h0;exact fE.out.2 ⟨HN.out h1.1,by rw[<-aX,h1.2];rfl⟩)
 exact⟨rfl,_,rg.1,eV.out.trans rg.2⟩
def se(T:TypeId)(B b:Nat)(l:List UInt8)(w:World):Prop:=
 ∃ p v,B<=b/\w.heap[b]?=some (.cells #[p,v] T (0,0))/\((v = .slice none 0 0/\l = [])\/∃ g cap cur fr,v = .slice (some ⟨g,0,none⟩) l.length cap/\l≠[]/\B<=g/\g≠b/\w.heap[g]?=some (.cells cur 5 fr)/\l.length<=cur.size/\l.length<=cap/\l.length<=9223372036854775807/\cur.toList.take l.length=Lib.byteCells l)
theorem Bld.read{T:TypeId}{B b:Nat}{r:Option Nat}{l:List UInt8}{w:World}(h:Bld T B b r l w):se T B b l w:=by
 obtain⟨p,v,_,hB,hb,ho,hr,hne,hn⟩:=h;refine⟨p,v,hB,hb,?_⟩;by_cases h0:l = []
 ·exact .inl ⟨hn h0,h0⟩
 ·right;rcases ho.2 with ⟨_,h1⟩ | ⟨g,cap,cur,rfl,K1,hg,ky,eY,hcs,ht⟩
  ·exact absurd (rQ h1) h0
  ·refine⟨g,cap,cur,_,rfl,h0,K1,λe=>hne ?_,hg,by omega,ky,by unfold maxLen at eY;omega,by simpa using ht⟩;rw[<-hr,e];rfl
theorem se.keep{T:TypeId}{B b:Nat}{l:List UInt8}{w w':World}(h:se T B b l w)(hb:Below w.heap.size w w'):se T B b l w':=by
 obtain⟨p,v,hB,hh,hv⟩:=h;refine⟨p,v,hB,(hb.block b (eQ.1 hh).1).trans hh,?_⟩;rcases hv with hv | ⟨g,cap,cur,fr,h1,h2,h3,h4,h5,h6⟩
 ·exact .inl hv
 ·exact .inr ⟨g,cap,cur,fr,h1,h2,h3,h4,(hb.block g (eQ.1 h5).1).trans h5,h6⟩
theorem Sz{w:World}{g n k:Nat}(h:k≠g):(w.freeze ⟨g,0,none⟩ n).heap[k]?=w.heap[k]?:=by
 unfold World.freeze;split
 ·rfl
 ·simp only[Array.getElem?_modify];rw[Qc (Ne.symm h)]
theorem Sy{w:World}{g n:Nat}{cur:Array Value}{t:TypeId}{fr:Nat×Nat}(h:w.heap[g]?=some (.cells cur t fr)):∃ fr',(w.freeze ⟨g,0,none⟩ n).heap[g]?=some (.cells cur t fr'):=by
 unfold World.freeze;split
 ·exact⟨fr,h⟩
 ·simp only[Array.getElem?_modify,if_true,h];obtain⟨lo,hi⟩:=fr;exact⟨_,rfl⟩
theorem Y6{T:TypeId}(B b:Nat)(l:List UInt8)(w:World)(h:se T B b l w) :
 Calls prog 134 #[.pointer (some ⟨b,0,none⟩)] w λe w'=>e = .returned (ay l)/\se T B b l w'/\Below B w w':=by
 obtain⟨p,v,hB,hb,hv⟩:=h;rcases hv with ⟨rfl,rfl⟩ | ⟨g,cap,cur,fr,rfl,h0,Fo,dw,hg,Lt,TB,jj,ht⟩
 ·have c1:w.drew.cell? ⟨b,1,none⟩=some (.slice none 0 0):=by
   have:w.drew.heap[b]?=some (.cells #[p,.slice none 0 0] T (0,0)):=hb
   rw[Lib.cell_of_heap this];rfl
  have Th:∀ W q,(Builtin.unsafeString_ #[271,3] 9 #[.pointer q,.int .i64 0]).run prog W = .ok (.string .empty) W:=λW q=>Lib.run_unsafeString_none W _ _ _ q;have ew:(Builtin.unsafeSliceData_ #[196] 271 #[.slice none 0 0]).run prog w.drew = .ok (.pointer none) w.drew:=rfl;have HB:=jq hb;clear hb;go_enter func134,ntmps134;go_wp2;go_region
  all_goals (go_wp2;go_ret;exact⟨rfl,⟨p,_,hB,HB.out,.inl ⟨rfl,rfl⟩⟩,(vQ _ _).drew⟩)
 ·have c1:w.drew.cell? ⟨b,1,none⟩=some (.slice (some ⟨g,0,none⟩) l.length cap):=by
   have:w.drew.heap[b]?=some (.cells #[p,.slice (some ⟨g,0,none⟩) l.length cap] T (0,0)):=hb
   rw[Lib.cell_of_heap this];rfl
  have rn:l.length≠0:=by simpa using h0
  have ew:(Builtin.unsafeSliceData_ #[196] 271 #[.slice (some ⟨g,0,none⟩) l.length cap]).run prog w.drew = .ok (.pointer (some ⟨g,0,none⟩)) w.drew:=
   Lib.run_unsafeSliceData_row _ _ _ _ _ _ (by omega)
  have hg':w.drew.heap[g]?=some (.cells cur 5 fr):=hg;have Th:(Builtin.unsafeString_ #[271,3] 9 #[.pointer (some ⟨g,0,none⟩),.int .i64 l.length]).run prog w.drew = .ok (.string ⟨l.toArray⟩) (w.drew.freeze ⟨g,0,none⟩ l.length):=by
   refine Lib.run_unsafeString_row w.drew 271 3 9 5 underlying271 Rr g cur.size (by simp[World.shape?,hg']) l h0 Lt jj ?_;intro j x hx;have ll:(⟨g,0,none⟩:Addr).add j=⟨g,j,none⟩:=by unfold Addr.add;split <;> simp_all
   rw[ll,Lib.cell_of_heap hg'];have h1:(Lib.byteCells l)[j]?=some (.int .u8 x.toNat):=by simp[Lib.byteCells,hx]
   rw[<-ht,List.getElem?_take] at h1;split at h1
   ·simpa using h1
   ·cases h1
  have HF:Hid (se T B b l (w.drew.freeze ⟨g,0,none⟩ l.length)/\Below B w (w.drew.freeze ⟨g,0,none⟩ l.length)):=by
   obtain⟨fr',ma⟩:=Sy (n:=l.length) hg';exact jq ⟨⟨p,_,hB,(Sz (Ne.symm dw)).trans hb,.inr ⟨g,cap,cur,fr',rfl,h0,Fo,dw,ma,Lt,TB,jj,ht⟩⟩,Lib.below_freeze (Below.drew (vQ B w)) (p:=⟨g,0,none⟩) Fo _⟩
  clear hb hg hg' ht;go_enter func134,ntmps134;go_wp2;go_region
  all_goals (go_wp2;go_ret;exact⟨rfl,HF.out⟩)
def EU(b:Nat)(r:Option Nat)(w:World)(v:Value)(ws:List (List UInt8)):Prop:=
 ∃ A c,v = .slice A ws.length c/\ws.length<=c/\ws.length<=1000000/\∀ i x,ws[i]?=some x->∃ g o,A=some ⟨g,o,none⟩/\g<w.heap.size/\g≠b/\r≠some g/\w.cell? ⟨g,o+i,none⟩=some (ay x)
theorem EU.step{b:Nat}{r r':Option Nat}{w w':World}{v:Value}{ws:List (List UInt8)}(h:EU b r w v ws)(hs:BS b r w r' w'):EU b r' w' v ws:=by
 obtain⟨A,c,h1,h2,h3,h4⟩:=h;refine⟨A,c,h1,h2,h3,λi x hx=>?_⟩;obtain⟨g,o,h5,h6,h7,h8,h9⟩:=h4 i x hx;exact⟨g,o,h5,lQ h6 hs.size,h7,hs.free h6 h8,(hs.cell h6 h7 h8 _).trans h9⟩
theorem OI{T:TypeId}(hT:BldT T)(B b:Nat)(r:Option Nat)(l:List UInt8)(c:UInt8)(k:Int)(hk:(c.toNat:Int)=k)(w:World)(h:Bld T B b r l w)(hl:l.length<=100000000)(gP:B<=w.heap.size) :
 Calls prog 130 #[.pointer (some ⟨b,0,none⟩),.int .u8 k] w (AC T B b r (l ++ [c]) .nilIface w):=by
 subst hk;exact Z7 hT B b r l c w h hl gP
end
namespace Np
def aP(l:List Span):List Int:=l.flatMap λs=>[s.frm,s.til]
def mrg:List Int->List Int->Bool->Bool->List (Int×Bool×Bool)
 | [],[],_,_=>[]
 | x::xs,[],p,q=>(x,!p,q)::mrg xs [] (!p) q
 | [],y::ys,p,q=>(y,p,!q)::mrg [] ys p (!q)
 | x::xs,y::ys,p,q=>if x<y then (x,!p,q)::mrg xs (y::ys) (!p) q else if y<x then (y,p,!q)::mrg (x::xs) ys p (!q) else (x,!p,!q)::mrg xs ys (!p) (!q)
termination_by xs ys=>xs.length+ys.length
def eR(o:List Span×Int)(e:Int×Bool×Bool):List Span×Int:=
 if e.2.1&&!e.2.2 then (if o.2<0 then (o.1,e.1) else o) else (if 0<=o.2 then (o.1 ++ [⟨o.2,e.1⟩],-1) else o)
def qB(a b:List Span):List Span:=((mrg (aP a) (aP b) false false).foldl eR ([],-1)).1
def inF:List Int->Bool->Int->Bool
 | [],p,_=>p
 | x::xs,p,t=>if t<x then p else inF xs (!p) t
def qQ(t0:Int):List Int->Prop
 | []=>True
 | x::xs=>t0<x/\qQ x xs
def vO:List Int->Bool->Bool
 | [],p=>p
 | _::xs,p=>vO xs (!p)
theorem qQ.weak{t0 t1:Int} : ∀ {l:List Int},qQ t1 l->t0<=t1->qQ t0 l
 | [],_,_=>trivial
 | _::_,h,ht=>⟨Int.lt_of_le_of_lt ht h.1,h.2⟩
theorem VB{p:Bool} : ∀ {l:List Int} {t0 t:Int},qQ t0 l->t<=t0->inF l p t=p
 | [],_,_,_,_=>rfl
 | x::xs,t0,t,h,ht=>by rw[inF,Qb (by have:=h.1;omega)]
theorem rP{p:Bool}{x:Int}{xs:List Int}{t:Int}(h:x<=t):inF (x::xs) p t=inF xs (!p) t:=by rw[inF,Qc (by omega)]
theorem oR{p:Bool}{x:Int}{xs:List Int}{t:Int}(h:t<x):inF (x::xs) p t=p:=by rw[inF,Qb h]
structure SwOk(o:List Span×Int)(t0:Int)(p q:Bool):Prop where
 ap:ApartS o.1
 til:∀ s∈o.1,s.til<=t0
 lt:0<=o.2->∀ s∈o.1,s.til<o.2
 none:o.2<0->o.2 = -1
 opens:0<=o.2↔(p&&!q)=true
 le:o.2<=t0
theorem Bx{l:List Span}{s:Span}(h:ApartS l)(hs:s.frm<s.til)(hl:∀ x∈l,x.til<s.frm):ApartS (l ++ [s]):=by
 refine⟨λx hx=>?_,List.pairwise_append.2 ⟨h.apart,List.pairwise_singleton _ _,λx hx y hy=>?_⟩⟩
 ·rcases List.mem_append.1 hx with hx | hx
  ·exact h.full x hx
  ·rw[List.mem_singleton] at hx;subst hx;exact hs
 ·rw[List.mem_singleton] at hy;subst hy;exact hl x hx
theorem zL{s:Span}{t:Int} : inS [s] t↔s.frm<=t/\t<s.til:=⟨λ⟨x,hx,h⟩=>by rw[List.mem_singleton] at hx;subst hx;exact h,λh=>⟨s,by simp,h⟩⟩
theorem Ar{o:List Span×Int}{t0 t:Int}{p q p' q':Bool}(h:SwOk o t0 p q)(ht:t0<t)(h0:0<=t):SwOk (eR o (t,p',q')) t p' q'/\
 ∀ u,(inS (eR o (t,p',q')).1 u\/(0<=(eR o (t,p',q')).2/\(eR o (t,p',q')).2<=u/\u<t))↔(inS o.1 u\/(0<=o.2/\o.2<=u/\u<t)):=by
 obtain⟨out,f⟩:=o;obtain⟨h1,h2,h3,h4,h5,h6⟩:=h;simp only at h1 h2 h3 h4 h5 h6 |-;unfold eR;simp only;by_cases hn:(p'&&!q')=true
 ·rw[Qb hn];by_cases hf:f<0
  ·rw[Qb hf];exact⟨⟨h1,λs hs=>by have:=h2 s hs;omega,λ_ s hs=>by have:=h2 s hs;show s.til<t;omega,λhx=>by exfalso;have hx:t<0:=hx;omega,⟨λ_=>hn,λ_=>h0⟩,Int.le_refl _⟩,λu=>by simp only;constructor <;> (rintro (h | h) <;> first | exact .inl h | (exfalso;omega))⟩
  ·rw[Qc hf];exact⟨⟨h1,λs hs=>by have:=h2 s hs;omega,h3,h4,⟨λ_=>hn,λ_=>by show 0<=f;omega⟩,by show f<=t;omega⟩,λu=>Iff.rfl⟩
 ·rw[Qc hn];by_cases hf:0<=f
  ·rw[Qb hf];refine⟨⟨Bx h1 (by simp only;omega) (λs hs=>h3 hf s hs),λs hs=>?_,λhx=>by simp only at hx;omega,λ_=>rfl,⟨λhx=>by simp only at hx;omega,λhx=>absurd hx hn⟩,by simp only;omega⟩,λu=>?_⟩
   ·rcases List.mem_append.1 hs with hs | hs
    ·have:=h2 s hs;omega
    ·rw[List.mem_singleton] at hs;subst hs;exact Int.le_refl _
   ·simp only[tS,zL];constructor
    ·rintro ((h | h) | h)
     ·exact .inl h
     ·exact .inr ⟨hf,h⟩
     ·omega
    ·rintro (h | h)
     ·exact .inl (.inl h)
     ·exact .inl (.inr h.2)
  ·rw[Qc hf];exact⟨⟨h1,λs hs=>by have:=h2 s hs;omega,h3,h4,⟨λhx=>absurd hx hf,λhx=>absurd hx hn⟩,by simp only;omega⟩,λu=>Iff.rfl⟩
def uE(o:List Span×Int)(t0:Int)(xs ys:List Int)(p q:Bool)(u:Int):Prop:=inS o.1 u\/(0<=o.2/\o.2<=u/\u<t0)\/(t0<=u/\inF xs p u=true/\inF ys q u=false)
theorem zN{o o':List Span×Int}{t0 t:Int}{xs ys xs' ys':List Int}{p q p' q':Bool}(hk:SwOk o t0 p q)(ht:t0<t)
 (hx:∀ u,t0<=u->u<t->inF xs p u=p/\inF ys q u=q) (hx':∀ u,t<=u->inF xs p u=inF xs' p' u/\inF ys q u=inF ys' q' u)
 (hs:∀ u,(inS o'.1 u\/(0<=o'.2/\o'.2<=u/\u<t))↔(inS o.1 u\/(0<=o.2/\o.2<=u/\u<t))) (u:Int):uE o' t xs' ys' p' q' u↔uE o t0 xs ys p q u:=by
 have ho:=hk.opens;have ee:=hk.le;have key:(inS o.1 u\/(0<=o.2/\o.2<=u/\u<t))↔(inS o.1 u\/(0<=o.2/\o.2<=u/\u<t0)\/(t0<=u/\u<t/\(p&&!q)=true)):=by
  constructor
  ·rintro (h | ⟨h1,h2,h3⟩)
   ·exact .inl h
   ·by_cases hu:u<t0
    ·exact .inr (.inl ⟨h1,h2,hu⟩)
    ·exact .inr (.inr ⟨by omega,h3,ho.1 h1⟩)
  ·rintro (h | ⟨h1,h2,h3⟩ | ⟨h1,h2,h3⟩)
   ·exact .inl h
   ·exact .inr ⟨h1,h2,by omega⟩
   ·exact .inr ⟨ho.2 h3,by omega,h2⟩
 unfold uE;rw[<-or_assoc,hs u,key];constructor
 ·rintro ((h | h | ⟨h1,h2,h3⟩) | ⟨h1,h2,h3⟩)
  ·exact .inl h
  ·exact .inr (.inl h)
  ·obtain⟨e1,e2⟩:=hx u h1 h2;simp only[Bool.and_eq_true,Bool.not_eq_true'] at h3;exact .inr (.inr ⟨h1,by rw[e1];exact h3.1,by rw[e2];exact h3.2⟩)
  ·obtain⟨e1,e2⟩:=hx' u h1;exact .inr (.inr ⟨by omega,by rw[e1];exact h2,by rw[e2];exact h3⟩)
 ·rintro (h | h | ⟨h1,h2,h3⟩)
  ·exact .inl (.inl h)
  ·exact .inl (.inr (.inl h))
  ·by_cases hu:u<t
   ·obtain⟨e1,e2⟩:=hx u h1 hu;rw[e1] at h2;rw[e2] at h3;exact .inl (.inr (.inr ⟨h1,hu,by rw[h2,h3];rfl⟩))
   ·obtain⟨e1,e2⟩:=hx' u (by omega);rw[e1] at h2;rw[e2] at h3;exact .inr ⟨by omega,h2,h3⟩
theorem Zb:∀ (n:Nat) (xs ys:List Int) (p q:Bool) (o:List Span×Int) (t0:Int),xs.length+ys.length<=n->-1<=t0->qQ t0 xs->qQ t0 ys->SwOk o t0 p q->
 ∃ t1,SwOk ((mrg xs ys p q).foldl eR o) t1 (vO xs p) (vO ys q)/\∀ u,(inS ((mrg xs ys p q).foldl eR o).1 u\/(0<=((mrg xs ys p q).foldl eR o).2/\((mrg xs ys p q).foldl eR o).2<=u))↔uE o t0 xs ys p q u:=by
 intro n
 induction n with
 | zero=>
  intro xs ys p q o t0 hn ht hx hy hk;obtain rfl:xs = []:=rQ (by omega);obtain rfl:ys = []:=rQ (by omega);rw[mrg];refine⟨t0,hk,λu=>?_⟩;simp only[List.foldl_nil,uE,inF];have ho:=hk.opens;have ee:=hk.le;constructor
  ·rintro (h | ⟨h1,h2⟩)
   ·exact .inl h
   ·by_cases hu:u<t0
    ·exact .inr (.inl ⟨h1,h2,hu⟩)
    ·have:=ho.1 h1
     simp only[Bool.and_eq_true,Bool.not_eq_true'] at this;exact .inr (.inr ⟨by omega,this.1,this.2⟩)
  ·rintro (h | ⟨h1,h2,h3⟩ | ⟨h1,h2,h3⟩)
   ·exact .inl h
   ·exact .inr ⟨h1,h2⟩
   ·have h4:=ho.2 (by rw[h2,h3];rfl);exact .inr ⟨h4,by omega⟩
 | succ n ih=>
  intro xs ys p q o t0 hn ht hx hy hk
  match xs,ys,hn,hx,hy with
  | [],[],hn,hx,hy=>exact ih [] [] p q o t0 (by simp) ht trivial trivial hk
  | x::xs,[],hn,hx,hy=>
   rw[mrg,List.foldl_cons];obtain⟨h1,h2⟩:=Ar (p':=!p) (q':=q) hk hx.1 (by have:=hx.1;omega);obtain⟨t1,k1,k2⟩:=ih xs [] (!p) q _ x (by simp only[List.length_cons,List.length_nil] at hn |-;omega) (by have:=hx.1;omega) hx.2 trivial h1;refine⟨t1,k1,λu=>(k2 u).trans (zN hk hx.1 (λu _ hu=>⟨oR hu,rfl⟩) (λu hu=>⟨rP hu,rfl⟩) h2 u)⟩
  | [],y::ys,hn,hx,hy=>
   rw[mrg,List.foldl_cons];obtain⟨h1,h2⟩:=Ar (p':=p) (q':=!q) hk hy.1 (by have:=hy.1;omega);obtain⟨t1,k1,k2⟩:=ih [] ys p (!q) _ y (by simp only[List.length_cons,List.length_nil] at hn |-;omega) (by have:=hy.1;omega) trivial hy.2 h1;refine⟨t1,k1,λu=>(k2 u).trans (zN hk hy.1 (λu _ hu=>⟨rfl,oR hu⟩) (λu hu=>⟨rfl,rP hu⟩) h2 u)⟩
  | x::xs,y::ys,hn,hx,hy=>
   rw[mrg];by_cases bF:x<y
   ·rw[Qb bF,List.foldl_cons];obtain⟨h1,h2⟩:=Ar (p':=!p) (q':=q) hk hx.1 (by have:=hx.1;omega);obtain⟨t1,k1,k2⟩:=ih xs (y::ys) (!p) q _ x (by simp only[List.length_cons] at hn |-;omega) (by have:=hx.1;omega) hx.2 ⟨bF,hy.2⟩ h1;refine⟨t1,k1,λu=>(k2 u).trans (zN hk hx.1 (λu _ hu=>⟨oR hu,oR (by omega)⟩) (λu hu=>⟨rP hu,rfl⟩) h2 u)⟩
   ·rw[Qc bF];by_cases GG:y<x
    ·rw[Qb GG,List.foldl_cons];obtain⟨h1,h2⟩:=Ar (p':=p) (q':=!q) hk hy.1 (by have:=hy.1;omega);obtain⟨t1,k1,k2⟩:=ih (x::xs) ys p (!q) _ y (by simp only[List.length_cons] at hn |-;omega) (by have:=hy.1;omega) ⟨GG,hx.2⟩ hy.2 h1;refine⟨t1,k1,λu=>(k2 u).trans (zN hk hy.1 (λu _ hu=>⟨oR (by omega),oR hu⟩) (λu hu=>⟨rfl,rP hu⟩) h2 u)⟩
    ·rw[Qc GG,List.foldl_cons];obtain rfl:x=y:=by omega
     obtain⟨h1,h2⟩:=Ar (p':=!p) (q':=!q) hk hx.1 (by have:=hx.1;omega);obtain⟨t1,k1,k2⟩:=ih xs ys (!p) (!q) _ x (by simp only[List.length_cons] at hn |-;omega) (by have:=hx.1;omega) hx.2 hy.2 h1;refine⟨t1,k1,λu=>(k2 u).trans (zN hk hx.1 (λu _ hu=>⟨oR hu,oR hu⟩) (λu hu=>⟨rP hu,rP hu⟩) h2 u)⟩
structure SpV(l:List Span):Prop where
 ap:ApartS l
 lo:∀ s∈l,0<=s.frm
 hi:∀ s∈l,s.til<=20000000
theorem SpV.tail{s:Span}{l:List Span}(h:SpV (s::l)):SpV l:=⟨h.ap.tail,λx hx=>h.lo x (mQ _ hx),λx hx=>h.hi x (mQ _ hx)⟩
theorem BL:∀ {l:List Span} {t0:Int},ApartS l->(∀ s∈l,t0<s.frm)->qQ t0 (aP l)
 | [],_,_,_=>trivial
 | s::l,t0,h,h0=>⟨h0 s (by simp),h.full s (by simp),BL h.tail (λx hx=>(List.pairwise_cons.1 h.apart).1 x hx)⟩
theorem BK:∀ {l:List Span},ApartS l->∀ u,inF (aP l) false u=true↔inS l u
 | [],_,u=>⟨λh=>(by cases h),λh=>absurd h (ix u)⟩
 | s::l,h,u=>by
   have hf:=h.full s (by simp);rw[gY,<-BK h.tail u,show aP (s::l)=s.frm::s.til::aP l from rfl];by_cases h1:u<s.frm
   ·rw[oR h1];have h2:inF (aP l) false u=false:=VB (BL h.tail (t0:=s.til) (λx hx=>(List.pairwise_cons.1 h.apart).1 x hx)) (by omega);rw[h2];constructor
    ·intro h;cases h
    ·rintro (h | h)
     ·omega
     ·cases h
   ·rw[rP (by omega)];by_cases h2:u<s.til
    ·rw[oR h2];exact⟨λ_=>.inl ⟨by omega,h2⟩,λ_=>rfl⟩
    ·rw[rP (by omega)];constructor
     ·intro h;exact .inr h
     ·rintro (h | h)
      ·omega
      ·exact h
theorem Fc:∀ (l:List Span) (p:Bool),vO (aP l) p=p
 | [],_=>rfl
 | s::l,p=>by
   rw[show aP (s::l)=s.frm::s.til::aP l from rfl,vO,vO,Fc l,Bool.not_not]
theorem Hi{a b:List Span}(ha:SpV a)(hb:SpV b):((mrg (aP a) (aP b) false false).foldl eR ([],-1)).2 = -1/\ApartS (qB a b)/\∀ u,inS (qB a b) u↔inS a u/\¬ inS b u:=by
 have hk:SwOk ([],-1) (-1) false false:=⟨ApartS.nil,λs hs=>(by cases hs),λh=>(by simp at h),λ_=>rfl,(by simp),Int.le_refl _⟩;obtain⟨t1,h1,h2⟩:=Zb _ (aP a) (aP b) false false ([],-1) (-1) (bQ _) (Int.le_refl _) (BL ha.ap (λs hs=>by have:=ha.lo s hs;omega)) (BL hb.ap (λs hs=>by have:=hb.lo s hs;omega)) hk;rw[Fc,Fc] at h1;have h0:((mrg (aP a) (aP b) false false).foldl eR ([],-1)).2<0:=by
  refine Decidable.byContradiction λhn=>?_
  have:=h1.opens.1 (by omega)
  cases this
 refine⟨h1.none h0,h1.ap,λu=>?_⟩
 have:=h2 u
 unfold qB;rw[<-BK ha.ap,<-BK hb.ap,Bool.not_eq_true];unfold uE at this;constructor
 ·intro h;rcases this.1 (.inl h) with h | h | h
  ·exact absurd h (ix u)
  ·exfalso;have:=h.1;simp at this
  ·exact h.2
 ·intro h;rcases this.2 (.inr (.inr ⟨by
   have h3:=(BK ha.ap u).1 h.1;obtain⟨s,hs,h4,_⟩:=h3
   have:=ha.lo s hs
   omega,h⟩)) with h | h
  ·exact h
  ·omega
def mL(x:Span)(b o:List Span):List Span:=b.foldl (λo y=>if max x.frm y.frm<min x.til y.til then o ++ [⟨max x.frm y.frm,min x.til y.til⟩] else o) o
def JU(a b:List Span):List Span:=a.foldl (λo x=>mL x b o) []
def iA(p:List Span×Int)(s:Span):List Span×Int:=(if p.2<s.frm then p.1 ++ [⟨p.2,s.frm⟩] else p.1,s.til)
def rS(l:List Span):List Span:=if (l.foldl iA ([],0)).2<20000000 then (l.foldl iA ([],0)).1 ++ [⟨(l.foldl iA ([],0)).2,20000000⟩] else (l.foldl iA ([],0)).1
theorem EZ{x:Span}(hx:x.frm<x.til):∀ (b o:List Span),ApartS b->ApartS o->(∀ s∈o,(∀ y∈b,s.til<max x.frm y.frm))->ApartS (mL x b o)/\(∀ u,inS (mL x b o) u↔inS o u\/(x.frm<=u/\u<x.til/\inS b u))/\∀ s∈mL x b o,s∈o\/s.til<=x.til
 | [],o,_,ho,_=>⟨ho,λu=>⟨.inl,λh=>h.elim id λh=>absurd h.2.2 (ix u)⟩,λs hs=>.inl hs⟩
 | y::b,o,hb,ho,hl=>by
   have hy:=hb.full y (by simp);unfold mL;rw[List.foldl_cons];by_cases hm:max x.frm y.frm<min x.til y.til
   ·rw[Qb hm];obtain⟨h1,h2,h3⟩:=EZ hx b (o ++ [⟨max x.frm y.frm,min x.til y.til⟩]) hb.tail (Bx ho hm (λs hs=>hl s hs y (by simp))) (λs hs z hz=>by
     rcases List.mem_append.1 hs with hs | hs
     ·exact hl s hs z (mQ _ hz)
     ·rw[List.mem_singleton] at hs;subst hs
      have:=(List.pairwise_cons.1 hb.apart).1 z hz
      simp only;omega)
    unfold mL at h1 h2 h3;refine⟨h1,λu=>?_,λs hs=>?_⟩
    ·rw[h2,tS,zL,gY];simp only;constructor
     ·rintro ((h | h) | h)
      ·exact .inl h
      ·exact .inr ⟨by omega,by omega,.inl (by omega)⟩
      ·exact .inr ⟨h.1,h.2.1,.inr h.2.2⟩
     ·rintro (h | ⟨h1,h2,h | h⟩)
      ·exact .inl (.inl h)
      ·exact .inl (.inr (by omega))
      ·exact .inr ⟨h1,h2,h⟩
    ·rcases h3 s hs with h | h
     ·rcases List.mem_append.1 h with h | h
      ·exact .inl h
      ·rw[List.mem_singleton] at h;subst h;exact .inr (by simp only;omega)
     ·exact .inr h
   ·rw[Qc hm];obtain⟨h1,h2,h3⟩:=EZ hx b o hb.tail ho (λs hs z hz=>hl s hs z (mQ _ hz));unfold mL at h1 h2 h3;refine⟨h1,λu=>?_,h3⟩;rw[h2,gY];constructor
    ·rintro (h | h)
     ·exact .inl h
     ·exact .inr ⟨h.1,h.2.1,.inr h.2.2⟩
    ·rintro (h | ⟨h1,h2,h | h⟩)
     ·exact .inl h
     ·omega
     ·exact .inr ⟨h1,h2,h⟩
theorem JW{b:List Span}(hb:ApartS b):∀ (a o:List Span),ApartS a->ApartS o->(∀ s∈o,∀ x∈a,s.til<x.frm)->ApartS (a.foldl (λo x=>mL x b o) o)/\∀ u,inS (a.foldl (λo x=>mL x b o) o) u↔inS o u\/(inS a u/\inS b u)
 | [],o,_,ho,_=>⟨ho,λu=>⟨.inl,λh=>h.elim id λh=>absurd h.1 (ix u)⟩⟩
 | x::a,o,ha,ho,hl=>by
   rw[List.foldl_cons];obtain⟨h1,h2,h3⟩:=EZ (ha.full x (by simp)) b o hb ho (λs hs y _=>by have:=hl s hs x (by simp);omega);obtain⟨k1,k2⟩:=JW hb a _ ha.tail h1 (λs hs z hz=>by
    rcases h3 s hs with h | h
    ·exact hl s h z (mQ _ hz)
    ·have:=(List.pairwise_cons.1 ha.apart).1 z hz;omega)
   refine⟨k1,λu=>?_⟩;rw[k2,h2,gY];constructor
   ·rintro ((h | h) | h)
    ·exact .inl h
    ·exact .inr ⟨.inl ⟨h.1,h.2.1⟩,h.2.2⟩
    ·exact .inr ⟨.inr h.1,h.2⟩
   ·rintro (h | ⟨h | h,h'⟩)
    ·exact .inl (.inl h)
    ·exact .inl (.inr ⟨h.1,h.2,h'⟩)
    ·exact .inr ⟨h,h'⟩
theorem GU:∀ (l o:List Span) (at':Int),SpV l->ApartS o->(∀ s∈o,s.til<=at')->(o≠[]->∀ s∈o,s.til<at')->(∀ s∈l,at'<=s.frm)->at'<=20000000->
 ApartS (l.foldl iA (o,at')).1/\(∀ s∈(l.foldl iA (o,at')).1,s.til<(l.foldl iA (o,at')).2)/\at'<=(l.foldl iA (o,at')).2/\(l.foldl iA (o,at')).2<=20000000/\
 ∀ u,(inS (l.foldl iA (o,at')).1 u\/(l.foldl iA (o,at')).2<=u)↔(inS o u\/(at'<=u/\¬ inS l u))
 | [],o,at',_,ho,_,h2,_,hat=>⟨ho,λs hs=>h2 (λe=>by rw[e] at hs;cases hs) s hs,Int.le_refl _,hat,λu=>by
  constructor
  ·rintro (h | h)
   ·exact .inl h
   ·exact .inr ⟨h,ix u⟩
  ·rintro (h | h)
   ·exact .inl h
   ·exact .inr h.1⟩
 | s::l,o,at',hl,ho,h1,h2,h3,hat=>by
   rw[List.foldl_cons];have hf:=hl.ap.full s (by simp);have hs:=h3 s (by simp);have oI:=(List.pairwise_cons.1 hl.ap.apart).1;have lv:=hl.hi s (by simp);unfold iA;simp only;by_cases aa:at'<s.frm
   ·rw[Qb aa];obtain⟨k1,k2,k3,k4,k5⟩:=GU l (o ++ [⟨at',s.frm⟩]) s.til hl.tail (Bx ho aa (λx hx=>h2 (λe=>by rw[e] at hx;cases hx) x hx)) (λx hx=>by
     rcases List.mem_append.1 hx with hx | hx
     ·have:=h1 x hx;omega
     ·rw[List.mem_singleton] at hx;subst hx;simp only;omega) (λ_ x hx=>by
     rcases List.mem_append.1 hx with hx | hx
     ·have:=h1 x hx;omega
     ·rw[List.mem_singleton] at hx;subst hx;simp only;omega) (λx hx=>by have:=oI x hx;omega) lv
    unfold iA at k1 k2 k3 k4 k5;refine⟨k1,k2,by omega,k4,λu=>?_⟩;rw[k5,tS,zL,gY];simp only;constructor
    ·rintro ((h | h) | h)
     ·exact .inl h
     ·refine .inr ⟨h.1,?_⟩;rintro (h' | h')
      ·omega
      ·have:=hl.ap.above h';omega
     ·refine .inr ⟨by omega,?_⟩;rintro (h' | h')
      ·omega
      ·exact h.2 h'
    ·rintro (h | ⟨h4,h5⟩)
     ·exact .inl (.inl h)
     ·by_cases hu:u<s.frm
      ·exact .inl (.inr ⟨h4,hu⟩)
      ·exact .inr ⟨Decidable.byContradiction λhn=>h5 (.inl (by omega)),λh=>h5 (.inr h)⟩
   ·rw[Qc aa];obtain⟨k1,k2,k3,k4,k5⟩:=GU l o s.til hl.tail ho (λx hx=>by have:=h1 x hx;omega) (λ_ x hx=>by have:=h1 x hx;omega) (λx hx=>by have:=oI x hx;omega) lv;unfold iA at k1 k2 k3 k4 k5;refine⟨k1,k2,by omega,k4,λu=>?_⟩;rw[k5,gY];constructor
    ·rintro (h | h)
     ·exact .inl h
     ·refine .inr ⟨by omega,?_⟩;rintro (h' | h')
      ·omega
      ·exact h.2 h'
    ·rintro (h | ⟨h4,h5⟩)
     ·exact .inl h
     ·exact .inr ⟨Decidable.byContradiction λhn=>h5 (.inl (by omega)),λh=>h5 (.inr h)⟩
theorem WU{l:List Span}(hl:SpV l):ApartS (rS l)/\∀ u,0<=u->u<20000000->(inS (rS l) u↔¬ inS l u):=by
 obtain⟨k1,k2,k3,k4,k5⟩:=GU l [] 0 hl ApartS.nil (λs hs=>by cases hs) (λh=>absurd rfl h) (λs hs=>hl.lo s hs) (by omega);unfold rS;by_cases h:(l.foldl iA ([],0)).2<20000000
 ·rw[Qb h];refine⟨Bx k1 h k2,λu h0 hu=>?_⟩;rw[tS,zL]
  have:=k5 u
  constructor
  ·rintro (h' | h')
   ·rcases this.1 (.inl h') with h | h
    ·exact absurd h (ix u)
    ·exact h.2
   ·rcases this.1 (.inr h'.1) with h | h
    ·exact absurd h (ix u)
    ·exact h.2
  ·intro h';rcases this.2 (.inr ⟨h0,h'⟩) with h | h
   ·exact .inl h
   ·exact .inr ⟨h,hu⟩
 ·rw[Qc h];refine⟨k1,λu h0 hu=>?_⟩
  have:=k5 u
  constructor
  ·intro h';rcases this.1 (.inl h') with h | h
   ·exact absurd h (ix u)
   ·exact h.2
  ·intro h';rcases this.2 (.inr ⟨h0,h'⟩) with h | h
   ·exact h
   ·omega
theorem Zc{a b:List Span}(ha:SpV a)(hb:SpV b):qB a b=JU a (rS b):=by
 obtain⟨_,h1,h2⟩:=Hi ha hb;obtain⟨n1,n2⟩:=WU hb;obtain⟨k1,k2⟩:=JW n1 a [] ha.ap ApartS.nil (λs hs=>by cases hs);refine EX _ _ h1 k1 (λu=>?_);rw[h2];show _↔inS (a.foldl _ []) u;rw[k2];constructor
 ·rintro⟨h3,h4⟩;obtain⟨s,hs,h5,h6⟩:=h3;exact .inr ⟨⟨s,hs,h5,h6⟩,(n2 u (by have:=ha.lo s hs;omega) (by have:=ha.hi s hs;omega)).2 h4⟩
 ·rintro (h | ⟨h3,h4⟩)
  ·exact absurd h (ix u)
  ·obtain⟨s,hs,h5,h6⟩:=h3;exact⟨⟨s,hs,h5,h6⟩,(n2 u (by have:=ha.lo s hs;omega) (by have:=ha.hi s hs;omega)).1 h4⟩
end Np
end Go.Proofs.YtfnopgdcaanaiaaGreatDoor
