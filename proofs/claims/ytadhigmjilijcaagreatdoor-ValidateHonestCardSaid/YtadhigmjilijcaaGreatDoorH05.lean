/- No condition. -/
import Derived.Lib.ConvBytes
import Derived.WideMake
import Derived.Laws.AppendOwnNone
import Derived.Test.YtadhigmjilijcaaGreatDoorH01
set_option linter.all false
set_option maxRecDepth 100000
set_option maxHeartbeats 8000000
namespace Go.Proofs.YtadhigmjilijcaaGreatDoor
open Go.Proofs.Tryz
namespace Np
variable {α:Type} [DecidableEq α]
end Np
section
open Go.RowKit
theorem ra{W W':World}{base:Nat}{e:TypeId}{size:Nat}{v:Value}{k:Nat}{xs:List Value}(h:W.ownsRow base e size v k xs)(hs:∀ g,v.ownBlock=some g->W'.heap[g]?=W.heap[g]?):W'.ownsRow base e size v k xs:=by
 refine⟨h.1,?_⟩;rcases h.2 with hn | ⟨g,cap,cur,rfl,hb,hg,rest⟩
 ·exact .inl hn
 ·exact .inr ⟨g,cap,cur,rfl,hb,(hs g rfl).trans hg,rest⟩
theorem UX{α:Type}{R:aDQ α}{sz:Nat}{W:World}{base:Nat}{e:TypeId}{v:Value}{xs:List α}(enc:α->List Value)(hlen:∀ x∈xs,(enc x).length=sz)
 (h:W.ownsRow base e sz v xs.length (xs.flatMap enc)) (hl:xs.length<=140737488355328) (hR:∀ x∈xs,R W W.heap.size (enc x) x):SlR R sz W W.heap.size v xs:=by
 have aVZ:∀ (l:List α) (i:Nat) (x:α) (j:Nat) (u:Value),(∀ y∈l,(enc y).length=sz)->l[i]?=some x->(enc x)[j]?=some u->(l.flatMap enc)[i * sz+j]?=some u:=by
  intro l
  induction l with
  | nil=>intro i x j u _ hi;simp at hi
  | cons y l ih=>
   intro i x j u kZ hi hj;rw[List.flatMap_cons];have hy:(enc y).length=sz:=kZ y (by simp)
   cases i with
   | zero=>
    simp at hi;subst hi;rw[List.getElem?_append_left (by have:=(cQ.1 hj).1;omega)];simpa using hj
   | succ i=>
    rw[oQ (by rw[hy,Nat.succ_mul];omega),hy]
    have:=ih i x j u (λy hy=>kZ y (by simp[hy])) (by simpa using hi) hj
    rw[show (i+1) * sz+j - sz=i * sz+j by rw[Nat.succ_mul];omega];exact this
 rcases h.2 with ⟨rfl,h0⟩ | ⟨g,cap,cur,rfl,hb,hg,mc,_,_,S4⟩
 ·have:xs = []:=rQ h0
  subst this;exact⟨none,0,rfl,by simp,by simp,λi x hx=>by simp at hx⟩
 ·refine⟨_,cap,rfl,mc,hl,λi x hx=>⟨g,0,enc x,rfl,(eQ.1 hg).1,hlen x (gQ hx),λj u hj=>?_,hR x (gQ hx)⟩⟩;have h1:=aVZ xs i x j u hlen hx hj;have h2:=h.cells (g:=g) rfl _ _ h1;have pg:(⟨g,0,none⟩:Addr).add (i * sz+j)=⟨g,0+i * sz+j,none⟩:=by unfold Addr.add;split<;>simp_all
  rw[pg] at h2;exact h2
def oX(_:World)(_:Nat)(e:List Value)(x:Int):Prop:=e = [.int .i64 x]
theorem L5:dR oX:=λ_ _ _ _ _ h _=>h
theorem L6:ef oX:=λ_ _ _ _ _ h _=>h
theorem TZ{α:Type}(f:α->Value)(l:List α):l.map f=l.flatMap λx=>[f x]:=by induction l<;>simp_all
theorem sF{W:World}{base:Nat}{e:TypeId}{size:Nat}{v:Value}{k:Nat}{xs:List Value}(h:W.ownsRow base e size v k xs):∃ A cap,v = .slice A k cap:=by
 rcases h.2 with ⟨rfl,rfl⟩ | ⟨g,cap,_,rfl,_⟩
 ·exact⟨none,0,rfl⟩
 ·exact⟨_,cap,rfl⟩
theorem T9{W:World}{base:Nat}{e:TypeId}{size:Nat}{v:Value}{k:Nat}{xs:List Value}(h:W.ownsRow base e size v k xs):∀ g,v.ownBlock=some g->base<=g/\g<W.heap.size:=h.lt
theorem Me(l:List UInt8):Np.be (l ++ [46])=Np.be l ++ [[]]:=Np.yk l []
theorem bCX:∀ (l:List UInt8) (c:UInt8) (pre:List (List UInt8)) (x:List UInt8),c≠46->Np.be l=pre ++ [x]->Np.be (l ++ [c])=pre ++ [x ++ [c]]:=by
 intro l
 induction l with
 | nil=>
  intro c pre x hc h;have h2:([[]]:List (List UInt8))=pre ++ [x]:=h
  cases pre with
  | nil=>simp at h2;subst h2;simp[Np.be,hc]
  | cons a pre=>simp at h2
 | cons a r ih=>
  intro c pre x hc h;rw[List.cons_append];rw[Np.be] at h |-;by_cases ha:a=46
  ·rw[QbQ ha] at h |-
   cases pre with
   | nil=>simp at h;exact absurd h.2 (Np.oM r)
   | cons b pre=>
    simp only[List.cons_append,List.cons.injEq] at h;rw[ih c pre x hc h.2,<-h.1];rfl
  ·rw[Qc ha] at h |-;have hne:=Np.oM r
   cases hr:Np.be r with
   | nil=>exact absurd hr hne
   | cons y ys=>
    rw[hr] at h;simp only at h
    cases pre with
    | nil=>
     simp only[List.nil_append,List.cons.injEq] at h;obtain⟨rfl,rfl⟩:=h;rw[ih c [] y hc (by rw[hr];rfl)];rfl
    | cons b pre=>
     simp only[List.cons_append,List.cons.injEq] at h;obtain⟨rfl,rfl⟩:=h;rw[ih c (y::pre) x hc (by rw[hr];rfl)];rfl
def RSt(_:World)(_:Nat)(e:List Value)(x:List UInt8):Prop:=e = [bB x]
theorem GR:dR RSt:=λ_ _ _ _ _ h _=>h
theorem UD:ef RSt:=λ_ _ _ _ _ h _=>h
def yB{α:Type}(R:aDQ α)(sz:Nat)(w:World)(xs:List α)(e:Ending)(w':World):Prop:=∃ v,e = .returned v/\SlR R sz w' w'.heap.size v xs/\Below w.heap.size w w'
theorem biK{W:World}{base:Nat}{e:TypeId}{g cap n:Nat}{xs:List Value}(h:W.ownsRow base e 1 (.slice (some ⟨g,0,none⟩) n cap) n xs)(j:Nat)(hj:j<n)(u:Value) :
 W.cell? ⟨g,j,none⟩=xs[j]?/\W.frozen? ⟨g,j,none⟩=false/\g<W.heap.size/\base<=g/\(W.setCell ⟨g,j,none⟩ u).ownsRow base e 1 (.slice (some ⟨g,0,none⟩) n cap) n (xs.set j u):=by
 obtain⟨h1,h2⟩:=h;rcases h2 with ⟨h2,_⟩ | ⟨g',cap',cur,h2,hb,hg,hn,hm,hs,ht⟩
 ·cases h2
 ·simp only[Value.slice.injEq,Option.some.injEq,Addr.mk.injEq,and_true,true_and] at h2;obtain⟨rfl,rfl⟩:=h2;have ag:=(eQ.1 hg).1;refine⟨?_,?_,ag,hb,by simpa using h1,.inr ⟨g,cap,cur.setIfInBounds j u,rfl,hb,?_,hn,hm,by simpa using hs,?_⟩⟩
  ·rw[<-ht];simp only[World.cell?,hg,Option.isSome_none,Bool.false_eq_true,if_false,List.getElem?_take];rw[QbQ (by omega)];simp
  ·simp[World.frozen?,hg]
  ·simp only[World.setCell,Array.getElem?_modify,if_true,hg];simp
  ·rw[<-ht,Array.toList_setIfInBounds,List.take_set]
theorem Tryz.infoStr:(prog.info? 9).map (λi=>(i.zero,i.size,i.bytes))=some (some (.string ⟨#[]⟩),1,16):=by kernel_rfl
def afY(s:ByteArray)(w:World)(v i:Value)(wr:World):Prop:=
 ∃ (k:Nat) (pre:List (List UInt8)) (x:List UInt8),k<=s.size/\i = .int .i64 k/\Np.be (s.data.toList.take k)=pre ++ [x]/\pre.length<=k/\wr.ownsRow w.heap.size 9 1 v (pre.length+1) (pre.map bB ++ [bB x])/\Below w.heap.size w wr
theorem bEZ(x:List UInt8)(s:ByteArray)(k:Nat)(hk:k<s.size):Value.string ((⟨x.toArray⟩:ByteArray)++s.extract k (k+1))=bB (x ++ [s[k]]):=by
 show Value.string _=Value.string _;congr 1;apply iV
 have:(s.extract k (k+1)).data.toList = [s[k]]:=by
  rw[JJ,Mj s k hk,List.drop_append_of_le_length (by rw[List.length_take,bO];omega),List.drop_of_length_le (by rw[List.length_take,bO];omega),List.nil_append]
 rw[ByteArray.data_append,Array.toList_append,this]
theorem Us(s:ByteArray)(hs:s.size<=1000000)(w:World):Calls prog 55 #[.string s] w (yB RSt 1 w (Np.be s.data.toList)):=by
 obtain⟨i0,hi,eu,bG,bL⟩:=info_parts Tryz.infoStr;go_enter func55,ntmps55;go_wp2;go_loopw [3,4] (λv i wr=>afY s w v i wr) (λ_ i _=>s.size - (intOf i).toNat)
 case atStart=>
  refine⟨0,[],[],jQ _,rfl,rfl,bQ _,⟨rfl,.inr ⟨w.heap.size,1,#[.string ⟨#[]⟩],rfl,bQ _,heap_alloc_new _ _,by simp,by simp[maxLen],rfl,rfl⟩⟩,blAl⟩
 case round=>
  obtain⟨k,pre,x,hk,rfl,SX,il,hown,hB⟩:=hrel;obtain⟨g,cap,rfl⟩:=ownsRow_succ hown;have aB:=hB.size;have HB:=jq hB;have HO:=jq hown;have HS:=jq SX;clear hB hown SX;by_cases ag:k<s.size
  ·have hb:=Ay s[k];have S7:=Mj s k ag;have HT:=jq S7;clear S7;by_cases Ch:(s[k].toNat:Int)=46
   ·have he:((s[k].toNat:Int) == 46)=true:=by simp[Ch]
    have hc:s[k]=46:=by
     apply UInt8.toNat_inj.1
     have:s[k].toNat=46:=by omega
     rw[this];rfl
    have HC:=jq hc;clear hc Ch;go_wp2_with (at_builtin;refine wpList_append_own_at _ rfl _ _ 102 rfl w.heap.size 9 i0 (.string ⟨#[]⟩) 1 16 underlying102 hi eu bG bL rfl (by decide) _ _ _ rfl (HO.out.alloc _) ⟨wr.heap.size,0,none⟩ 1 1 [.string ⟨#[]⟩] rfl rfl (cell_one_new _ _ _) (by simp[Value.oneCell']) (by unfold maxLen;omega) (by omega) (by simp;omega) ?_;intro v1 w1 ff dK _ fX;have H1:=jq (And.intro ff dK);clear ff dK fX);go_roundw
    case rel=>
     obtain⟨o1,g1⟩:=H1.out;have hlo:=(HO.out.lt g rfl).1;refine⟨k+1,pre ++ [x],[],by omega,by go_num,?_,by simp;omega,?_,?_⟩
     ·rw[HT.out,HC.out,Me,HS.out]
     ·simpa using o1
     ·exact (HB.out.alloc (by omega) _).grown g1 (by simp;omega) (λj hj=>by have e:g=j:=Option.some.inj hj;omega)
    case measure=>simp[intOf]<;>omega
   ·have he:((s[k].toNat:Int) == 46)=false:=by simp[Ch]
    have hc:s[k]≠46:=λe=>Ch (by rw[e];rfl);have HC:=jq hc;clear hc Ch;obtain⟨q1,q2,q3,q4,q5⟩:=biK HO.out pre.length (by omega) (bB (x ++ [s[k]]));have hcell:wr.cell? ⟨g,pre.length,none⟩=some (bB x):=by rw[q1];simp
    have oT:=jq q5;have pg:=bEZ x s k ag;clear q1 q5;have vx:x.length<=k:=by
     have h1:=Np.Mf (l:=s.data.toList.take k) (y:=x) (by rw[HS.out];simp);rw[List.length_take] at h1;omega
    have dL:¬ 9223372036854775807<x.length+(min (k+1) s.size - k):=by omega
    have ah:IntKind.i64.wrap (pre.length:Int)=pre.length:=IntWalk.i64_in _ (by omega);have ar:IntKind.i64.wrap ((k:Int)+1)=k+1:=IntWalk.i64_in _ (by omega);have oB:(0:Int)<=(pre.length:Int):=by omega
    have hp1:(pre.length:Int)<(pre.length:Int)+1:=by omega
    have df:(0:Int)<=(k:Int):=by omega
    have dg:(k:Int)+1<=(s.size:Int):=by omega
    have qD:((k:Int)+1).toNat=k+1:=by omega
    have jE:(0:Int)<=(k:Int)+1:=by omega
    have ft:(k:Int)<=(k:Int)+1:=by omega
    go_wp2_with fail;refine Vz 17 (by kernel_rfl) (by kernel_rfl) ?_;simp only[List.take_succ_cons,List.take_zero,List.drop_succ_cons,List.drop_zero]
    iterate 17 still_step
    refine wpStill_nil ?_;go_wp2_with fail;go_roundw
    case rel=>
     refine⟨k+1,pre,x ++ [s[k]],by omega,by go_num,?_,by omega,?_,?_⟩
     ·rw[HT.out];exact bCX _ _ _ _ HC.out HS.out
     ·have h5:(wr.setCell ⟨g,pre.length,none⟩ (bB (x ++ [s[k]]))).ownsRow w.heap.size 9 1 (.slice (some ⟨g,0,none⟩) (pre.length+1) cap) (pre.length+1) (pre.map bB ++ [bB (x ++ [s[k]])]):=by
       have:=oT.out
       simpa using this
      exact h5
     ·exact (HB.out.setCell (p:=⟨g,pre.length,none⟩) q4 _).drew
    case measure=>simp[intOf]<;>omega
  ·go_wp2_with fail;go_ret;refine⟨_,rfl,?_,HB.out⟩;have cK:Np.be s.data.toList=pre ++ [x]:=by have:=HS.out;rwa [GY s k (by omega)] at this
   rw[cK];refine UX (sz:=1) (e:=9) (base:=w.heap.size) (λx=>[bB x]) (λ_ _=>rfl) ?_ (by simp;omega) (λ_ _=>rfl)
   have:=HO.out
   simpa [TZ] using this
theorem bBJ{α:Type}{R:aDQ α}{sz:Nat}(w:World)(B:Nat):SlR R sz w B (.slice none 0 0) []:=⟨none,0,rfl,by simp,by simp,λi x h=>by simp at h⟩
theorem DI(s:ByteArray)(hs:s.size<=1000000)(w:World):Calls prog 57 #[.string s] w (yB RSt 1 w (Np.bC s.data.toList)):=by
 by_cases h:s.data.toList = [46]
 ·have he:(s.toList == [46])=true:=by rw[dQ,h];rfl
  have hp:Np.bC s.data.toList = []:=by rw[Np.bC,QbQ h]
  rw[hp];clear h hp;go_enter func57,ntmps57;go_wp2_with fail;go_ret;exact⟨_,rfl,bBJ _ _,vQ _ _⟩
 ·have he:(s.toList == [46])=false:=by rw[dQ];simpa using h
  have hp:Np.bC s.data.toList=Np.be s.data.toList:=by rw[Np.bC,Qc h]
  rw[hp];clear h hp;go_enter func57,ntmps57;go_wp2_with fail;refine (Us s hs _).mono ?_;rintro e w1 ⟨v,rfl,hv,hb⟩;have HV:=jq (And.intro hv hb);clear hv hb;go_wp2_with fail;go_ret;exact⟨_,rfl,HV.out⟩
theorem DR{w:World}{B:Nat}{v:Value}{xs:List (List UInt8)}(h:SlR RSt 1 w B v xs){k:Nat}{x:List UInt8}(hx:xs[k]?=some x):∃ b o c,v = .slice (some ⟨b,o,none⟩) xs.length c/\b<B/\xs.length<=c/\w.cell? ⟨b,o+k,none⟩=some (bB x):=by
 obtain⟨A,c,rfl,hc,_,he⟩:=h;obtain⟨b,o,e,rfl,hb,_,hce,rfl⟩:=he k x hx;exact⟨b,o,c,rfl,hb,hc,by have:=hce 0 _ rfl;simpa using this⟩
structure Turned(b:Nat)(w w':World):Prop where
 os:w'.os=w.os
 tape:w'.tape=w.tape
 output:w'.output=w.output
 size:w'.heap.size=w.heap.size
 block:∀ i,i≠b->w'.heap[i]?=w.heap[i]?
theorem Turned.refl(b:Nat)(w:World):Turned b w w:=⟨rfl,rfl,rfl,rfl,λ_ _=>rfl⟩
theorem Turned.trans{b:Nat}{u v w:World}(h:Turned b u v)(k:Turned b v w):Turned b u w:=⟨k.os.trans h.os,k.tape.trans h.tape,k.output.trans h.output,k.size.trans h.size,λi hi=>(k.block i hi).trans (h.block i hi)⟩
theorem Turned.cell{b:Nat}{w w':World}(h:Turned b w w'){p:Addr}(hp:p.block≠b):w'.cell? p=w.cell? p:=by
 unfold World.cell?;rw[h.block _ hp]
theorem bFY(w:World)(b:Nat)(v:Value):Turned b w (w.setCell ⟨b,0,none⟩ v):=
 ⟨rfl,rfl,rfl,by simp[World.setCell],λi hi=>by simp[World.setCell,Array.getElem?_modify,Ne.symm hi]⟩
theorem Turned.grown{b:Nat}{w w':World}(h:Turned b w w'):w.grownBy w' (some b):=⟨h.os,h.tape,h.output,by rw[h.size];exact bQ _,λi _ hne=>h.block i (λe=>hne (by rw[e]))⟩
theorem Turned.below{b n:Nat}{w w':World}(h:Turned b w w')(hn:n<=b):Below n w w':=⟨h.os,h.tape,h.output,by rw[h.size];exact bQ _,λi hi=>h.block i (by omega)⟩
theorem akK(w:World)(t:TypeId)(z:ByteArray){n:Nat}(hn:n<=w.heap.size):Below n w (Lib.bytesWorld w t z):=by
 refine⟨?_,?_,?_,by rw[Lib.bytesWorld_size];omega,λi hi=>Lib.bytesWorld_at_old _ _ _ _ (by omega)⟩<;>(unfold Lib.bytesWorld World.freeze;rfl)
end
section
open Go.RowKit Go.MapKept
def jw(r:Nat)(kvs:List (List UInt8×Value))(w:World):Prop:=∃ es c,w.heap[r]?=some (.map es c)/\es.toList.map (λe=>(e.key,e.val))=kvs.map λp=>(bB p.1,p.2)
theorem jw.lt{r:Nat}{kvs:List (List UInt8×Value)}{w:World}(h:jw r kvs w):r<w.heap.size:=by
 obtain⟨es,c,h,_⟩:=h;exact (eQ.1 h).1
theorem jw.keep{r:Nat}{kvs:List (List UInt8×Value)}{w w':World}{n:Nat}(h:jw r kvs w)(hb:Below n w w')(hn:r<n):jw r kvs w':=by
 obtain⟨es,c,h,h2⟩:=h;exact⟨es,c,(hb.block r hn).trans h,h2⟩
theorem jw.made(w:World):jw w.heap.size [] (w.alloc (.map #[] 0)):=⟨#[],0,heap_alloc_new _ _,rfl⟩
theorem U6(x y:List UInt8):((⟨x.toArray⟩:ByteArray) == ⟨y.toArray⟩)=(x == y):=by
 have h:((⟨x.toArray⟩:ByteArray) == ⟨y.toArray⟩)=(x.toArray == y.toArray):=rfl;rw[h,List.beq_toArray]
theorem JM(x:List UInt8):∀ (es:List MapEntry) (kvs:List (List UInt8×Value)) (i:Nat),es.map (λe=>(e.key,e.val))=kvs.map (λp=>(bB p.1,p.2))->
 (∀ v,kvs.lookup x=some v->∃ j,Instr.findNow .string (bB x) es i=some (some (j,v)))/\(kvs.lookup x=none->Instr.findNow .string (bB x) es i=some none):=by
 intro es
 induction es with
 | nil=>
  intro kvs i h
  cases kvs with
  | nil=>exact⟨λv hv=>by simp at hv,λ_=>rfl⟩
  | cons=>simp at h
 | cons e es ih=>
  intro kvs i h
  cases kvs with
  | nil=>simp at h
  | cons p kvs=>
   obtain⟨y,u⟩:=p;simp only[List.map_cons,List.cons.injEq,Prod.mk.injEq] at h;obtain⟨⟨h1,h2⟩,h3⟩:=h;have hs:Instr.sameNow .string (bB x) e.key=some (x == y):=by rw[h1];simp only[Instr.sameNow];rw[U6]
   by_cases dY:x=y
   ·subst dY;have hb:(x == x)=true:=by simp
    rw[hb] at hs;refine⟨λv hv=>⟨i,?_⟩,λhv=>?_⟩
    ·rw[List.lookup_cons_self] at hv;simp only[Instr.findNow,hs]
     cases hv
     rw[h2]
    ·rw[List.lookup_cons_self] at hv;cases hv
   ·have hb:(x == y)=false:=by simpa using dY
    rw[hb] at hs;have hl:((y,u)::kvs).lookup x=kvs.lookup x:=by rw[List.lookup_cons,hb]
    rw[hl];obtain⟨i1,i2⟩:=ih kvs (i+1) h3;refine⟨λv hv=>?_,λhv=>?_⟩
    ·obtain⟨j,hj⟩:=i1 v hv;exact⟨j,by simp only[Instr.findNow,hs];exact hj⟩
    ·simp only[Instr.findNow,hs];exact i2 hv
section
variable {P:Program} {ops:Array Oper} {rest:List Oper} {o:Oper} {a:Act} {Q:Exit->Act->World->Prop}
theorem Vx(w:World)(hg:o.guard=none)(m x v:Operand)(t:TypeId)(zJ:o.op=Op.mapUpdate t m x v)(kt et:TypeId)(ht:P.underlying t=some (.map kt et))(hk:P.underlying kt=some .string)
 (r:Nat) (kvs:List (List UInt8×Value)) (hm:a.eval m = .map (some r)) (hr:jw r kvs w) (key:List UInt8) (hx:a.eval x=bB key) (val:Value) (hv:a.eval v=val) (dL:kvs.lookup key=none)
 (hK:∀ w',jw r (kvs ++ [(key,val)]) w'->Turned r w w'->wpList P ops Q rest (a.put o.dst undef) w'):wpList P ops Q (o::rest) a w:=by
 obtain⟨es,c,hr,he⟩:=hr;have hf:=(JM key es.toList kvs 0 he).2 dL;refine wpList_plain hg λK' hK'=>?_;have hc:(Instr.checkKey false 10000 kt (bB key)).run P w = .ok () w:=MapKept.run_checkKey (k:=bB key) hk (by simp[MapKept.IsKey]) false 9999;have jI:(Instr.mapUpdate t (.map (some r)) (bB key) val).run P w = .ok () { w with heap:=w.heap.setIfInBounds r (.map (es.push { key:=bB key,val:=val,born:=c }) (c+1)) }:=by
  simp[Instr.mapUpdate,run_underlying ht,MapKept.run_getObj_map hr,hc,MapKept.run_findKey hk hf,MapKept.run_setObj_map _ hr,Result.andThen]
 unfold Oper.wp;simp[execOp,zJ,hm,hx,hv,jI,Result.andThen];have hl:r<w.heap.size:=(eQ.1 hr).1;refine hK' _ _ (hK _ ⟨_,_,by simp[hl];exact⟨rfl,rfl⟩,by simp[he]⟩ ⟨rfl,rfl,rfl,by simp,λi hi=>by simp[Ne.symm hi]⟩)
theorem Ma(w:World)(t kt et:TypeId)(ht:P.underlying t=some (.map kt et))(hk:P.underlying kt=some .string)(r:Nat)(kvs:List (List UInt8×Value))(hr:jw r kvs w)(key:List UInt8)(z:Value)(hz:(zeroValue et).run P w = .ok z w) :
 (Instr.lookup t (.map (some r)) (bB key) false).run P w = .ok ((kvs.lookup key).getD z) w:=by
 obtain⟨es,c,hr,he⟩:=hr;have hf:=JM key es.toList kvs 0 he;have hc:∀ b,(Instr.checkKey b 10000 kt (bB key)).run P w = .ok () w:=λb=>MapKept.run_checkKey (k:=bB key) hk (by simp[MapKept.IsKey]) b 9999
 cases hl:kvs.lookup key with
 | none=>simp[Instr.lookup,run_underlying ht,MapKept.run_getObj_map hr,hc,MapKept.run_findKey hk (hf.2 hl),Result.andThen,hz]
 | some v=>
  obtain⟨j,hj⟩:=hf.1 v hl;simp[Instr.lookup,run_underlying ht,MapKept.run_getObj_map hr,hc,MapKept.run_findKey hk hj,Result.andThen]
end
def oV(r:Nat)(kvs:List (Int×Value))(w:World):Prop:=∃ es c,w.heap[r]?=some (.map es c)/\es.toList.map (λe=>(e.key,e.val))=kvs.map λp=>(Value.int .i64 p.1,p.2)
theorem oV.lt{r:Nat}{kvs:List (Int×Value)}{w:World}(h:oV r kvs w):r<w.heap.size:=by
 obtain⟨es,c,h,_⟩:=h;exact (eQ.1 h).1
theorem oV.keep{r:Nat}{kvs:List (Int×Value)}{w w':World}{n:Nat}(h:oV r kvs w)(hb:Below n w w')(hn:r<n):oV r kvs w':=by
 obtain⟨es,c,h,h2⟩:=h;exact⟨es,c,(hb.block r hn).trans h,h2⟩
theorem oV.made(w:World):oV w.heap.size [] (w.alloc (.map #[] 0)):=⟨#[],0,heap_alloc_new _ _,rfl⟩
theorem QF(x:Int):∀ (es:List MapEntry) (kvs:List (Int×Value)) (i:Nat),es.map (λe=>(e.key,e.val))=kvs.map (λp=>(Value.int .i64 p.1,p.2))->
 (∀ v,kvs.lookup x=some v->∃ j,Instr.findNow (.int .i64) (.int .i64 x) es i=some (some (j,v)))/\(kvs.lookup x=none->Instr.findNow (.int .i64) (.int .i64 x) es i=some none):=by
 intro es
 induction es with
 | nil=>
  intro kvs i h
  cases kvs with
  | nil=>exact⟨λv hv=>by simp at hv,λ_=>rfl⟩
  | cons=>simp at h
 | cons e es ih=>
  intro kvs i h
  cases kvs with
  | nil=>simp at h
  | cons p kvs=>
   obtain⟨y,u⟩:=p;simp only[List.map_cons,List.cons.injEq,Prod.mk.injEq] at h;obtain⟨⟨h1,h2⟩,h3⟩:=h;have hs:Instr.sameNow (.int .i64) (.int .i64 x) e.key=some (x == y):=by rw[h1];simp[Instr.sameNow]
   by_cases dY:x=y
   ·subst dY;have hb:(x == x)=true:=by simp
    rw[hb] at hs;refine⟨λv hv=>⟨i,?_⟩,λhv=>?_⟩
    ·rw[List.lookup_cons_self] at hv;simp only[Instr.findNow,hs]
     cases hv
     rw[h2]
    ·rw[List.lookup_cons_self] at hv;cases hv
   ·have hb:(x == y)=false:=by simpa using dY
    rw[hb] at hs;have hl:((y,u)::kvs).lookup x=kvs.lookup x:=by rw[List.lookup_cons,hb]
    rw[hl];obtain⟨i1,i2⟩:=ih kvs (i+1) h3;refine⟨λv hv=>?_,λhv=>?_⟩
    ·obtain⟨j,hj⟩:=i1 v hv;exact⟨j,by simp only[Instr.findNow,hs];exact hj⟩
    ·simp only[Instr.findNow,hs];exact i2 hv
section
variable {P:Program} {ops:Array Oper} {rest:List Oper} {o:Oper} {a:Act} {Q:Exit->Act->World->Prop}
end
end
section
open Go.RowKit
def bS{α:Type}(R:aDQ α)(sz:Nat)(e:TypeId)(base B:Nat)(w:World)(v:Value)(xs:List α):Prop:=
 ∃ rows:List (List Value),rows.length=xs.length/\w.ownsRow base e sz v xs.length rows.flatten/\∀ (i:Nat) (r:List Value) (x:α),rows[i]?=some r->xs[i]?=some x->r.length=sz/\R w B r x
theorem JQ{sz:Nat} : ∀ (rows:List (List Value)) (i j:Nat) (r:List Value) (u:Value),(∀ q∈rows,q.length=sz)->rows[i]?=some r->r[j]?=some u->rows.flatten[i * sz+j]?=some u:=by
 intro rows
 induction rows with
 | nil=>intro i j r u _ h;simp at h
 | cons q rows ih=>
  intro i j r u hq h hj;have hl:q.length=sz:=hq q (by simp);rw[List.flatten_cons]
  cases i with
  | zero=>
   simp at h;subst h;rw[List.getElem?_append_left (by have:=(cQ.1 hj).1;omega)];simpa using hj
  | succ i=>
   rw[oQ (by rw[hl,Nat.succ_mul];omega),hl,show (i+1) * sz+j - sz=i * sz+j by rw[Nat.succ_mul];omega];exact ih i j r u (λq hq'=>hq q (by simp[hq'])) (by simpa using h) hj
theorem JR{sz:Nat} : ∀ (rows:List (List Value)),(∀ q∈rows,q.length=sz)->rows.flatten.length=rows.length * sz:=by
 intro rows
 induction rows with
 | nil=>intro _;simp
 | cons q rs ih=>
  intro h;rw[List.flatten_cons,List.length_append,ih (λx hx=>h x (by simp[hx])),h q (by simp),List.length_cons,Nat.succ_mul];omega
theorem bS.rows_len{α:Type}{R:aDQ α}{sz B:Nat}{w:World}{xs:List α}{rows:List (List Value)}(hl:rows.length=xs.length)(h:∀ (i:Nat) (r:List Value) (x:α),rows[i]?=some r->xs[i]?=some x->r.length=sz/\R w B r x):∀ q∈rows,q.length=sz:=λq hq=>by
 obtain⟨i,hi,rfl⟩:=nQ.1 hq;exact (h i _ _ (aQ hi) (aQ (by omega))).1
theorem bS.slr{α:Type}{R:aDQ α}{sz:Nat}{e:TypeId}{base B:Nat}{w:World}{v:Value}{xs:List α}(h:bS R sz e base B w v xs)(hm:ef R)(hB:B<=w.heap.size)(hl:xs.length<=140737488355328):SlR R sz w w.heap.size v xs:=by
 obtain⟨rows,h1,h2,h3⟩:=h;rcases h2.2 with ⟨rfl,h0⟩ | ⟨g,cap,cur,rfl,hb,hg,mc,_⟩
 ·have:xs = []:=rQ h0
  subst this;exact⟨none,0,rfl,by simp,by simp,λi x hx=>by simp at hx⟩
 ·refine⟨_,cap,rfl,mc,hl,λi x hx=>?_⟩;have hi:=(cQ.1 hx).1;have hr:=aQ (show i<rows.length by omega);obtain⟨h4,h5⟩:=h3 i _ x hr hx;refine⟨g,0,rows[i],rfl,(eQ.1 hg).1,h4,λj u hj=>?_,hm _ _ _ _ _ h5 hB⟩;have h6:=h2.cells (g:=g) rfl _ _ (JQ rows i j _ u (bS.rows_len h1 h3) hr hj);have pg:(⟨g,0,none⟩:Addr).add (i * sz+j)=⟨g,0+i * sz+j,none⟩:=by unfold Addr.add;split<;>simp_all
  rw[pg] at h6;exact h6
theorem bS.keep{α:Type}{R:aDQ α}{sz:Nat}{e:TypeId}{base B:Nat}{w w':World}{v:Value}{xs:List α}(h:bS R sz e base B w v xs)(hk:dR R)(hb:Below w.heap.size w w')(hB:B<=w.heap.size):bS R sz e base B w' v xs:=by
 obtain⟨rows,h1,h2,h3⟩:=h;refine⟨rows,h1,ra h2 (λg hg=>hb.block g (h2.lt g hg).2),λi r x hr hx=>?_⟩;obtain⟨h4,h5⟩:=h3 i r x hr hx;exact⟨h4,hk _ _ _ _ _ h5 (hb.mono hB)⟩
theorem bS.empty{α:Type}{R:aDQ α}{sz:Nat}{e:TypeId}{base B:Nat}(w:World)(hb:base<=w.heap.size):bS (α:=α) R sz e base B (w.alloc (.cells #[] e)) (.slice (some ⟨w.heap.size,0,none⟩) 0 0) []:=
 ⟨[],rfl,⟨by simp,.inr ⟨w.heap.size,0,#[],rfl,hb,heap_alloc_new _ _,bQ _,by simp[maxLen],by simp,by simp⟩⟩,λi r x hr=>by simp at hr⟩
theorem bS.nil{α:Type}{R:aDQ α}{sz:Nat}{e:TypeId}{base B:Nat}(w:World):bS (α:=α) R sz e base B w (.slice none 0 0) []:=⟨[],rfl,⟨by simp,.inl ⟨rfl,rfl⟩⟩,λi r x hr=>by simp at hr⟩
theorem bBK{α:Type}{R:aDQ α}{sz:Nat}{w:World}{B:Nat}{A:Option Addr}{n c:Nat}{ys:List α}(h:SlR R sz w B (.slice A n c) ys)(aB:0<sz) :
 ∃ rows:List (List Value),rows.length=ys.length/\(∀ (i:Nat) (r:List Value) (x:α),rows[i]?=some r->ys[i]?=some x->r.length=sz/\R w B r x)/\(ys≠[]->∃ b o,A=some ⟨b,o,none⟩/\b<B/\∀ j u,rows.flatten[j]?=some u->w.cell? ((⟨b,o,none⟩:Addr).add j)=some u):=by
 obtain⟨A',c',hv,hc,hl,he⟩:=h
 cases hv
 have cK:∀ k,k<=ys.length->∃ rows:List (List Value),rows.length=k/\(∀ (i:Nat) (r:List Value) (x:α),rows[i]?=some r->ys[i]?=some x->r.length=sz/\R w B r x/\∃ b o,A=some ⟨b,o,none⟩/\b<B/\fm w b (o+i * sz) r):=by
  intro k
  induction k with
  | zero=>exact λ_=>⟨[],rfl,λi r x hr=>by simp at hr⟩
  | succ k ih=>
   intro hk;obtain⟨rows,h1,h2⟩:=ih (by omega);obtain⟨b,o,e,hA,hb,dS,hce,hr⟩:=he k _ (aQ (by omega:k<ys.length));refine⟨rows ++ [e],by simp[h1],λi r x hr' hx=>?_⟩;rcases Nat.lt_or_ge i rows.length with ag | nD
   ·rw[List.getElem?_append_left ag] at hr';exact h2 i r x hr' hx
   ·rw[oQ nD] at hr';have h0:i - rows.length=0:=by have:=(cQ.1 hr').1;simp at this;omega
    rw[h0] at hr';simp at hr';subst hr';obtain rfl:i=k:=by omega
    rw[aQ (by omega)] at hx;simp only[Option.some.injEq] at hx;subst hx;exact⟨dS,hr,b,o,hA,hb,hce⟩
 obtain⟨rows,h1,h2⟩:=cK ys.length (bQ _);refine⟨rows,h1,λi r x hr hx=>⟨(h2 i r x hr hx).1,(h2 i r x hr hx).2.1⟩,λhne=>?_⟩;have h0:0<ys.length:=Nat.pos_of_ne_zero (λe=>hne (rQ e));obtain⟨_,_,b,o,hA,hb,_⟩:=h2 0 _ _ (aQ (by omega)) (aQ h0);refine⟨b,o,hA,hb,λj u hj=>?_⟩;have hlen:∀ q∈rows,q.length=sz:=λq hq=>by
  obtain⟨i,hi,rfl⟩:=nQ.1 hq;exact (h2 i _ _ (aQ hi) (aQ (by omega))).1
 have hfl:=JR rows hlen;have rT:=(cQ.1 hj).1;have hi:j / sz<rows.length:=by rw[hfl] at rT;exact Nat.div_lt_of_lt_mul (by rw[Nat.mul_comm];exact rT)
 obtain⟨h5,_,b',o',hA',_,hce⟩:=h2 (j / sz) _ _ (aQ hi) (aQ (by omega));rw[hA] at hA';simp only[Option.some.injEq,Addr.mk.injEq,and_true] at hA';obtain⟨rfl,rfl⟩:=hA';have Sq:j % sz<rows[j / sz].length:=by rw[h5];exact Nat.mod_lt _ aB
 have h7:=JQ rows (j / sz) (j % sz) _ _ hlen (aQ hi) (aQ Sq);rw[Nat.div_add_mod' j sz,hj] at h7;simp only[Option.some.injEq] at h7;have h8:=hce (j % sz) _ (aQ Sq);rw[<-h7] at h8;have pg:(⟨b,o,none⟩:Addr).add j=⟨b,o+j,none⟩:=by unfold Addr.add;split<;>simp_all
 rw[pg,<-h8];congr 2
 have:=Nat.div_add_mod' j sz
 omega
section
variable {P:Program}
theorem UK{w:World}(base:Nat)(t ty e:TypeId)(i:TypeInfo)(size:Nat)(ht:P.underlying t=some (.slice e))(hi:P.info? e=some i)(v:Value)(n c:Nat)(xs:List Value)(hown:w.ownsRow base e size v n xs) :
 (Builtin.append_ #[t,t] ty #[v,.slice none 0 c]).run P w = .ok v w:=by
 rcases hown.2 with ⟨rfl,rfl⟩ | ⟨g,cap,cur,rfl,_,_,mc,_⟩
 ·simp[Builtin.append_,run_underlying ht,sizeOf,typeInfo,hi,Builtin.lenOf,Builtin.firstCells]
 ·simp[Builtin.append_,run_underlying ht,sizeOf,typeInfo,hi,Builtin.lenOf,Builtin.firstCells,mc,storeCells]
theorem MF{α:Type}{R:aDQ α}{sz:Nat}(w:World){ops:Array Oper}{rest:List Oper}{o:Oper}{a:Act}{Q:Exit->Act->World->Prop}(kf:o.guard=none)(s x:Operand)(t:TypeId)
 (ho:o.op = .call { callee:=.builtin .append,args:=#[s,x],argTypes:=#[t,t] })
 (base B:Nat) (e:TypeId) (i:TypeInfo) (z:Value) (bytes:Nat) (ht:P.underlying t=some (.slice e)) (hi:P.info? e=some i) (hz:i.zero=some z) (lj:i.size=sz) (gt:i.bytes=bytes) (gd:z.cells.size=sz) (aB:0<sz)
 (v:Value) (xs:List α) (hs:a.eval s=v) (hown:bS R sz e base B w v xs) (A:Option Addr) (c Bs:Nat) (ys:List α) (hx:a.eval x = .slice A ys.length c) (er:SlR R sz w Bs (.slice A ys.length c) ys)
 (xR:∀ r y,R w Bs r y->∀ u∈r,u.oneCell'=true) (nw:xs.length+ys.length<=maxLen) (ot:(xs.length+ys.length) * bytes<=140737488355328) (ji:base<=w.heap.size) (qj:Bs<=B) (Ra:B<=base) (hk:dR R) (hm:ef R)
 (h:∀ v' w',bS R sz e base B w' v' (xs++ys)->Below base w w'->w.grownBy w' v.ownBlock->wpList P ops Q rest (a.put o.dst v') w'):wpList P ops Q (o::rest) a w:=by
 have rU:∀ (w':World) (v':Value) (rows rows':List (List Value)),Below base w w'->rows.length=xs.length->(∀ (i:Nat) (r:List Value) (x:α),rows[i]?=some r->xs[i]?=some x->r.length=sz/\R w B r x)->rows'.length=ys.length->
  (∀ (i:Nat) (r:List Value) (x:α),rows'[i]?=some r->ys[i]?=some x->r.length=sz/\R w Bs r x)->w'.ownsRow base e sz v' (xs.length+ys.length) (rows.flatten++rows'.flatten)->bS R sz e base B w' v' (xs++ys):=by
  intro w' v' rows rows' hb h1 h2 h3 h4 h5;refine⟨rows++rows',by simp[h1,h3],?_,λj r y hr hy=>?_⟩
  ·rw[List.length_append,List.flatten_append];exact h5
  ·rcases Nat.lt_or_ge j rows.length with ag | nD
   ·rw[List.getElem?_append_left ag] at hr;rw[List.getElem?_append_left (by omega)] at hy;obtain⟨h6,h7⟩:=h2 j r y hr hy;exact⟨h6,hk _ _ _ _ _ h7 (hb.mono Ra)⟩
   ·rw[oQ nD] at hr;rw[oQ (by omega),<-h1] at hy;obtain⟨h6,h7⟩:=h4 _ r y hr hy;exact⟨h6,hk _ _ _ _ _ (hm _ _ _ _ _ h7 qj) (hb.mono Ra)⟩
 obtain⟨rows,h1,h2,h3⟩:=hown;obtain⟨rows',h4,h5,h6⟩:=bBK er aB;by_cases hy:ys = []
 ·subst hy;have tP:rows' = []:=rQ (by simpa using h4);subst tP
  cases A with
  | none=>
   have jI:=UK (P:=P) base t o.type e i sz ht hi v xs.length c rows.flatten h2;refine wpList_plain kf λK hK=>?_;unfold Oper.wp;have hx':a.eval x = .slice none 0 c:=hx;simp[execOp,ho,resolve,invoke,builtin,hs,hx',jI,Result.andThen];refine hK _ _ (h v w (rU w v rows [] (vQ _ _) h1 h3 rfl (λj r y hr=>by simp at hr) (by simpa using h2)) (vQ _ _) ⟨rfl,rfl,rfl,bQ _,λ_ _ _=>rfl⟩)
  | some ad=>
   refine wpList_append_own_at w kf s x t ho base e i z sz bytes ht hi hz lj gt gd aB v xs.length rows.flatten hs h2 ad 0 c [] hx (by simp) (λj u hj=>by simp at hj) (λu hu=>by cases hu) (by simpa using nw) (by simpa using ot) ji ?_;intro v' w' ho' hg _ _;have hb:Below base w w':=(vQ _ _).grown hg ji (λk hk=>(h2.lt k hk).1);exact h v' w' (rU w' v' rows [] hb h1 h3 rfl (λj r y hr=>by simp at hr) (by simpa using ho')) hb hg
 ·obtain⟨b,o',rfl,cX,hcell⟩:=h6 hy;have hl:=bS.rows_len h4 h5;refine wpList_append_own_at w kf s x t ho base e i z sz bytes ht hi hz lj gt gd aB v xs.length rows.flatten hs h2 ⟨b,o',none⟩ ys.length c rows'.flatten hx (by rw[JR rows' hl,h4]) hcell (λu hu=>?_) nw ot ji ?_
  ·obtain⟨r,hr,Li⟩:=List.mem_flatten.1 hu;obtain⟨j,hj,rfl⟩:=nQ.1 hr;exact xR _ _ (h5 j _ _ (aQ hj) (aQ (by omega))).2 u Li
  ·intro v' w' ho' hg _ _;have hb:Below base w w':=(vQ _ _).grown hg ji (λk hk=>(h2.lt k hk).1);exact h v' w' (rU w' v' rows rows' hb h1 h3 h4 h5 ho') hb hg
end
end
section
open Go.RowKit Go.MapKept
def pP(p:Int×List UInt8):Value:=.agg #[.int .i64 p.1,bB p.2]
def rE(r:Nat)(kvs:List ((Int×List UInt8)×Value))(w:World):Prop:=∃ es,w.heap[r]?=some (.map es es.size)/\es.toList.map (λe=>(e.key,e.val))=kvs.map (λp=>(pP p.1,p.2))/\∀ (i:Nat) (e:MapEntry),es[i]?=some e->e.born=i
theorem rE.lt{r:Nat}{kvs:List ((Int×List UInt8)×Value)}{w:World}(h:rE r kvs w):r<w.heap.size:=by
 obtain⟨es,h,_⟩:=h;exact (eQ.1 h).1
theorem rE.keep{r:Nat}{kvs:List ((Int×List UInt8)×Value)}{w w':World}{n:Nat}(h:rE r kvs w)(hb:Below n w w')(hn:r<n):rE r kvs w':=by
 obtain⟨es,h,h2⟩:=h;exact⟨es,(hb.block r hn).trans h,h2⟩
theorem rE.keep'{r:Nat}{kvs:List ((Int×List UInt8)×Value)}{w w':World}(h:rE r kvs w)(hb:w'.heap[r]?=w.heap[r]?):rE r kvs w':=by
 obtain⟨es,h,h2⟩:=h;exact⟨es,hb.trans h,h2⟩
theorem rE.made(w:World):rE w.heap.size [] (w.alloc (.map #[] 0)):=⟨#[],heap_alloc_new _ _,rfl,λi e h=>by simp at h⟩
end
section
open Go.RowKit
def iu(w:World)(base:Nat)(v:Value)(bs:List UInt8):Prop:=w.ownsRow base 5 1 v bs.length (bs.map λc=>Value.int .u8 c.toNat)
structure mE(v v':Value)(w w':World):Prop where
 grown:w.grownBy w' v.ownBlock
 at_:v'.ownBlock=v.ownBlock\/∃ k,w.heap.size<=k/\v'.ownBlock=some k
theorem mE.refl(v:Value)(w:World):mE v v w w:=⟨⟨rfl,rfl,rfl,bQ _,λ_ _ _=>rfl⟩,.inl rfl⟩
theorem mE.trans{a b c:Value}{u v w:World}(h:mE a b u v)(k:mE b c v w):mE a c u w:=by
 refine⟨⟨k.grown.os.trans h.grown.os,k.grown.tape.trans h.grown.tape,k.grown.output.trans h.grown.output,yQ h.grown.size k.grown.size,λi hi hne=>?_⟩,?_⟩
 ·refine (k.grown.block i (lqQ hi h.grown.size) (λe=>?_)).trans (h.grown.block i hi hne);rcases h.at_ with e' | ⟨j,hj,e'⟩
  ·rw[e'] at e;exact hne e
  ·rw[e'] at e;simp at e;omega
 ·rcases k.at_ with e | ⟨j,hj,e⟩
  ·rcases h.at_ with e' | ⟨j,hj,e'⟩
   ·exact .inl (e.trans e')
   ·exact .inr ⟨j,hj,e.trans e'⟩
  ·exact .inr ⟨j,yQ h.grown.size hj,e⟩
theorem mE.below{v v':Value}{w w':World}{base n:Nat}{e:TypeId}{k:Nat}{xs:List Value}(h:mE v v' w w')(ho:w.ownsRow base e 1 v k xs)(hb:n<=base)(hn:n<=w.heap.size):Below n w w':=
 ⟨h.grown.os,h.grown.tape,h.grown.output,h.grown.size,λi hi=>h.grown.block i (by omega) (λe=>by have:=(T9 ho i e.symm).1;omega)⟩
theorem mE.of_below{v v':Value}{w w1 w2:World}(hb:Below w.heap.size w w1)(h:mE v v' w1 w2):mE v v' w w2:=by
 refine⟨⟨h.grown.os.trans hb.os,h.grown.tape.trans hb.tape,h.grown.output.trans hb.output,yQ hb.size h.grown.size,λi hi hne=>(h.grown.block i (lqQ hi hb.size) hne).trans (hb.block i hi)⟩,?_⟩;rcases h.at_ with e | ⟨k,hk,e⟩
 ·exact .inl e
 ·exact .inr ⟨k,yQ hb.size hk,e⟩
section
variable {P:Program} (w:World)
theorem bxY(base:Nat)(t u ty e:TypeId)(i:TypeInfo)(ht:P.underlying t=some (.slice e))(hu:P.underlying u=some .string)(hi:P.info? e=some i)(hz:i.zero=some (.int .u8 0))
 (lj:i.size=1) (gt:i.bytes=1) (v:Value) (n:Nat) (xs:List Value) (hown:w.ownsRow base e 1 v n xs) (s:ByteArray) (nw:n+s.size<=maxLen) (ot:n+s.size<=140737488355328) (ji:base<=w.heap.size) :
 ∃ v' w',(Builtin.append_ #[t,u] ty #[v,.string s]).run P w = .ok v' w'/\w'.ownsRow base e 1 v' (n+s.size) (xs++Lib.strCells s)/\w.grownBy w' v.ownBlock/\(v'.ownBlock=v.ownBlock\/v'.ownBlock=some w.heap.size):=by
 obtain⟨v',w',jI,h2,h3,h4⟩:=Lib.run_append_own_string (P:=P) w base t u ty e i ht hu hi hz lj gt v n xs hown s nw ot ji;refine⟨v',w',jI,h2,h3,?_⟩;have b6X:n+s.size<=9223372036854775807:=by simp only[maxLen] at nw;omega
 rcases hown.2 with ⟨rfl,rfl⟩ | ⟨g,cap,cur,rfl,rP,hg,mc,kU,hcs,S4⟩
 ·by_cases hm:s.size=0
  ·exact .inl (by rw[h4.2 ⟨rfl,hm⟩])
  ·have hr:=run_append_nil_string (P:=P) w t u ty e i (.int .u8 0) ht hu hi hz s (by omega) (by omega) (by rw[gt];omega);rw[hr] at jI;injection jI with h5 _
   exact .inr (by rw[<-h5];rfl)
 ·by_cases aXZ:n+s.size<=cap
  ·have hr:=Lib.run_append_room_string (P:=P) w t u ty e i ht hu hi lj g n cap cur hg s aXZ (by omega);rw[hr] at jI;injection jI with h5 _
   exact .inl (by rw[<-h5];rfl)
  ·have holds:∀ j u,xs[j]?=some u->w.cell? ((⟨g,0,none⟩:Addr).add j)=some u:=hown.cells (g:=g) rfl;have hr:=Lib.run_append_grow_string (P:=P) w t u ty e i (.int .u8 0) ht hu hi hz ⟨g,0,none⟩ n cap xs (by rw[lj];exact hown.1) holds s (by omega) (by omega) (by rw[gt];exact growslice_fits (by omega) (by omega));rw[hr] at jI;injection jI with h5 _
   exact .inr (by rw[<-h5];rfl)
theorem bxX{ops:Array Oper}{rest:List Oper}{o:Oper}{a:Act}{Q:Exit->Act->World->Prop}(kf:o.guard=none)(sl x:Operand)(t u:TypeId)
 (ho:o.op = .call { callee:=.builtin .append,args:=#[sl,x],argTypes:=#[t,u] })
 (base:Nat) (e:TypeId) (i:TypeInfo) (ht:P.underlying t=some (.slice e)) (hu:P.underlying u=some .string) (hi:P.info? e=some i) (hz:i.zero=some (.int .u8 0)) (lj:i.size=1) (gt:i.bytes=1)
 (v:Value) (n:Nat) (xs:List Value) (hs:a.eval sl=v) (hown:w.ownsRow base e 1 v n xs) (s:ByteArray) (hx:a.eval x = .string s) (nw:n+s.size<=maxLen) (ot:n+s.size<=140737488355328) (ji:base<=w.heap.size)
 (h:∀ v' w',w'.ownsRow base e 1 v' (n+s.size) (xs++Lib.strCells s)->w.grownBy w' v.ownBlock->(v'.ownBlock=v.ownBlock\/v'.ownBlock=some w.heap.size)->wpList P ops Q rest (a.put o.dst v') w'):wpList P ops Q (o::rest) a w:=by
 obtain⟨v',w',hr,h2,h3,h4⟩:=bxY (P:=P) w base t u o.type e i ht hu hi hz lj gt v n xs hown s nw ot ji;refine wpList_plain kf λK hK=>?_;unfold Oper.wp execOp;simp only[ho,resolve,invoke,builtin,Sem.run_bind,Sem.run_pure,Result.andThen_ok,List.map_toArray,List.map_cons,List.map_nil,hs,hx,hr];exact hK _ _ (h v' w' h2 h3 h4)
end
theorem Tryz.infoByteSg:(prog.info? 5).map (λi=>(i.zero,i.size,i.bytes))=some (some (.int .u8 0),1,1):=by kernel_rfl
def ug(base:Nat)(v:Value)(bs:List UInt8)(w:World)(e:Ending)(w':World):Prop:=∃ v',e = .returned v'/\iu w' base v' bs/\mE v v' w w'
theorem bDK(s:ByteArray):Lib.strCells s=s.data.toList.map λc=>Value.int .u8 c.toNat:=rfl
theorem sE{w:World}{base:Nat}{v:Value}{bs:List UInt8}{k:Int}{c:UInt8}(hc:(c.toNat:Int)=k)(h:w.ownsRow base 5 1 v (bs.length+1) ((bs.map λc=>Value.int .u8 c.toNat) ++ [.int .u8 k])):iu w base v (bs ++ [c]):=by
 unfold iu;subst hc;simpa using h
theorem biQ{w:World}{base:Nat}{v:Value}{bs:List UInt8}{s:ByteArray}(h:w.ownsRow base 5 1 v (bs.length+s.size) ((bs.map λc=>Value.int .u8 c.toNat)++Lib.strCells s)):iu w base v (bs++s.data.toList):=by
 unfold iu;rw[bDK,<-List.map_append] at h;simpa using h
theorem qy{v v':Value}{w w':World}(hg:w.grownBy w' v.ownBlock)(hat:v'.ownBlock=v.ownBlock\/v'.ownBlock=some w.heap.size):mE v v' w w':=
 ⟨hg,hat.elim .inl λh=>.inr ⟨_,bQ _,h⟩⟩
theorem ajZ(base:Nat)(v:Value)(bs:List UInt8)(s:ByteArray)(hl:bs.length<=1000000)(hs:s.size<=255)(w:World)(hb:base<=w.heap.size)(h:iu w base v bs) :
 Calls prog 127 #[v,.string s] w (ug base v (bs++(UInt8.ofNat s.size::s.data.toList)) w):=by
 obtain⟨A,cap,rfl⟩:=sF h;have H:=jq h;clear h;obtain⟨i0,hi,eu,bG,bL⟩:=info_parts Tryz.infoByteSg;go_enter func127,ntmps127;go_wp2_with (first
  | (at_builtin;refine wpList_append_own_at _ rfl _ _ 108 rfl base 5 i0 (.int .u8 0) 1 1 underlying108 hi eu bG bL rfl (by decide) _ _ _ rfl (H.out.alloc _) ⟨w.heap.size,0,none⟩ 1 1 [.int .u8 s.size] rfl rfl (cell_one_new _ _ _) (by simp[Value.oneCell']) (by unfold maxLen;omega) (by omega) (by simp;omega) ?_;intro v1 w1 ff dK _ fX;have H1:=jq (And.intro ff (And.intro dK fX));clear ff dK fX)
  | (at_builtin;refine bxX _ rfl _ _ 108 9 rfl base 5 i0 underlying108 underlying9 hi eu bG bL _ _ _ rfl H1.out.1 s rfl (by unfold maxLen;omega) (by omega) (by have:=H1.out.2.1.size;simp at this;omega) ?_;intro v2 w2 C7 fo RF;have H2:=jq (And.intro C7 (And.intro fo RF));clear C7 fo RF))
 go_ret;obtain⟨o1,g1,a1⟩:=H1.out;obtain⟨o2,g2,a2⟩:=H2.out;refine⟨_,rfl,?_,?_⟩
 ·have:=biQ (bs:=bs ++ [UInt8.ofNat s.size]) (s:=s) (w:=w2) (base:=base) (v:=v2) (by
   have hc:(UInt8.ofNat s.size).toNat=s.size:=by simp;omega
   simp[hc];simpa using o2)
  simpa using this
 ·exact ((qy g1 a1).of_below ((vQ _ w).alloc (bQ _) _)).trans (qy g2 a2)
theorem ajQ(base:Nat)(v:Value)(bs:List UInt8)(n:Nat)(hl:bs.length<=1000000)(hn:n<9223372036854775808)(w:World)(hb:base<=w.heap.size)(h:iu w base v bs) :
 Calls prog 128 #[v,.int .i64 n] w (ug base v (bs++(List.range 8).map λi=>UInt8.ofNat (n / 2 ^ (56 - 8 * i))) w):=by
 obtain⟨A,cap,rfl⟩:=sF h;have H:=jq h;clear h;obtain⟨i0,hi,eu,bG,bL⟩:=info_parts Tryz.infoByteSg;go_enter func128,ntmps128;go_wp2_with fail;go_loopw [0,5] (λvb vs wr=>∃ k:Nat,k<=8/\vs = .int .i64 (56 - 8 * k)/\Hid (iu wr base vb (bs++(List.range k).map λi=>UInt8.ofNat (n / 2 ^ (56 - 8 * i))))/\Hid (mE (.slice A bs.length cap) vb w wr)) (λ_ i _=>(intOf i+8).toNat)
 case atStart=>exact⟨0,by omega,rfl,by simpa using H,jq (mE.refl _ _)⟩
 case round=>
  obtain⟨k,hk,rfl,HO,HH⟩:=hrel;obtain⟨A1,c1,rfl⟩:=sF HO.out;have aB:=HH.out.grown.size;rcases (by omega:k=0\/k=1\/k=2\/k=3\/k=4\/k=5\/k=6\/k=7\/k=8) with rfl | rfl | rfl | rfl | rfl | rfl | rfl | rfl | rfl
  ·go_wp2_with (at_builtin;refine wpList_append_own_at _ rfl _ _ 108 rfl base 5 i0 (.int .u8 0) 1 1 underlying108 hi eu bG bL rfl (by decide) _ _ _ rfl (World.ownsRow.alloc HO.out _) ⟨wr.heap.size,0,none⟩ 1 1 [_] rfl rfl (cell_one_new _ _ _) (by simp[Value.oneCell']) (by unfold maxLen;simp;omega) (by simp;omega) (by simp;omega) ?_;intro v1 w1 ff dK _ fX;have H1:=jq (And.intro ff (And.intro dK fX));clear ff dK fX);obtain⟨o1,g1,a1⟩:=H1.out;refine⟨⟨1,by omega,rfl,jq ?_,jq (HH.out.trans ((qy g1 a1).of_below ((vQ _ wr).alloc (bQ _) _)))⟩,by simp[intOf]⟩;rw[List.range_succ,List.map_append,<-List.append_assoc];refine sE ?_ o1;simp
   try omega
  ·go_wp2_with (at_builtin;refine wpList_append_own_at _ rfl _ _ 108 rfl base 5 i0 (.int .u8 0) 1 1 underlying108 hi eu bG bL rfl (by decide) _ _ _ rfl (World.ownsRow.alloc HO.out _) ⟨wr.heap.size,0,none⟩ 1 1 [_] rfl rfl (cell_one_new _ _ _) (by simp[Value.oneCell']) (by unfold maxLen;simp;omega) (by simp;omega) (by simp;omega) ?_;intro v1 w1 ff dK _ fX;have H1:=jq (And.intro ff (And.intro dK fX));clear ff dK fX);obtain⟨o1,g1,a1⟩:=H1.out;refine⟨⟨2,by omega,rfl,jq ?_,jq (HH.out.trans ((qy g1 a1).of_below ((vQ _ wr).alloc (bQ _) _)))⟩,by simp[intOf]⟩;rw[List.range_succ,List.map_append,<-List.append_assoc];refine sE ?_ o1;simp
   try omega
  ·go_wp2_with (at_builtin;refine wpList_append_own_at _ rfl _ _ 108 rfl base 5 i0 (.int .u8 0) 1 1 underlying108 hi eu bG bL rfl (by decide) _ _ _ rfl (World.ownsRow.alloc HO.out _) ⟨wr.heap.size,0,none⟩ 1 1 [_] rfl rfl (cell_one_new _ _ _) (by simp[Value.oneCell']) (by unfold maxLen;simp;omega) (by simp;omega) (by simp;omega) ?_;intro v1 w1 ff dK _ fX;have H1:=jq (And.intro ff (And.intro dK fX));clear ff dK fX);obtain⟨o1,g1,a1⟩:=H1.out;refine⟨⟨3,by omega,rfl,jq ?_,jq (HH.out.trans ((qy g1 a1).of_below ((vQ _ wr).alloc (bQ _) _)))⟩,by simp[intOf]⟩;rw[List.range_succ,List.map_append,<-List.append_assoc];refine sE ?_ o1;simp
   try omega
  ·go_wp2_with (at_builtin;refine wpList_append_own_at _ rfl _ _ 108 rfl base 5 i0 (.int .u8 0) 1 1 underlying108 hi eu bG bL rfl (by decide) _ _ _ rfl (World.ownsRow.alloc HO.out _) ⟨wr.heap.size,0,none⟩ 1 1 [_] rfl rfl (cell_one_new _ _ _) (by simp[Value.oneCell']) (by unfold maxLen;simp;omega) (by simp;omega) (by simp;omega) ?_;intro v1 w1 ff dK _ fX;have H1:=jq (And.intro ff (And.intro dK fX));clear ff dK fX);obtain⟨o1,g1,a1⟩:=H1.out;refine⟨⟨4,by omega,rfl,jq ?_,jq (HH.out.trans ((qy g1 a1).of_below ((vQ _ wr).alloc (bQ _) _)))⟩,by simp[intOf]⟩;rw[List.range_succ,List.map_append,<-List.append_assoc];refine sE ?_ o1;simp
   try omega
  ·go_wp2_with (at_builtin;refine wpList_append_own_at _ rfl _ _ 108 rfl base 5 i0 (.int .u8 0) 1 1 underlying108 hi eu bG bL rfl (by decide) _ _ _ rfl (World.ownsRow.alloc HO.out _) ⟨wr.heap.size,0,none⟩ 1 1 [_] rfl rfl (cell_one_new _ _ _) (by simp[Value.oneCell']) (by unfold maxLen;simp;omega) (by simp;omega) (by simp;omega) ?_;intro v1 w1 ff dK _ fX;have H1:=jq (And.intro ff (And.intro dK fX));clear ff dK fX);obtain⟨o1,g1,a1⟩:=H1.out;refine⟨⟨5,by omega,rfl,jq ?_,jq (HH.out.trans ((qy g1 a1).of_below ((vQ _ wr).alloc (bQ _) _)))⟩,by simp[intOf]⟩;rw[List.range_succ,List.map_append,<-List.append_assoc];refine sE ?_ o1;simp
   try omega
  ·go_wp2_with (at_builtin;refine wpList_append_own_at _ rfl _ _ 108 rfl base 5 i0 (.int .u8 0) 1 1 underlying108 hi eu bG bL rfl (by decide) _ _ _ rfl (World.ownsRow.alloc HO.out _) ⟨wr.heap.size,0,none⟩ 1 1 [_] rfl rfl (cell_one_new _ _ _) (by simp[Value.oneCell']) (by unfold maxLen;simp;omega) (by simp;omega) (by simp;omega) ?_;intro v1 w1 ff dK _ fX;have H1:=jq (And.intro ff (And.intro dK fX));clear ff dK fX);obtain⟨o1,g1,a1⟩:=H1.out;refine⟨⟨6,by omega,rfl,jq ?_,jq (HH.out.trans ((qy g1 a1).of_below ((vQ _ wr).alloc (bQ _) _)))⟩,by simp[intOf]⟩;rw[List.range_succ,List.map_append,<-List.append_assoc];refine sE ?_ o1;simp
   try omega
  ·go_wp2_with (at_builtin;refine wpList_append_own_at _ rfl _ _ 108 rfl base 5 i0 (.int .u8 0) 1 1 underlying108 hi eu bG bL rfl (by decide) _ _ _ rfl (World.ownsRow.alloc HO.out _) ⟨wr.heap.size,0,none⟩ 1 1 [_] rfl rfl (cell_one_new _ _ _) (by simp[Value.oneCell']) (by unfold maxLen;simp;omega) (by simp;omega) (by simp;omega) ?_;intro v1 w1 ff dK _ fX;have H1:=jq (And.intro ff (And.intro dK fX));clear ff dK fX);obtain⟨o1,g1,a1⟩:=H1.out;refine⟨⟨7,by omega,rfl,jq ?_,jq (HH.out.trans ((qy g1 a1).of_below ((vQ _ wr).alloc (bQ _) _)))⟩,by simp[intOf]⟩;rw[List.range_succ,List.map_append,<-List.append_assoc];refine sE ?_ o1;simp
   try omega
  ·go_wp2_with (at_builtin;refine wpList_append_own_at _ rfl _ _ 108 rfl base 5 i0 (.int .u8 0) 1 1 underlying108 hi eu bG bL rfl (by decide) _ _ _ rfl (World.ownsRow.alloc HO.out _) ⟨wr.heap.size,0,none⟩ 1 1 [_] rfl rfl (cell_one_new _ _ _) (by simp[Value.oneCell']) (by unfold maxLen;simp;omega) (by simp;omega) (by simp;omega) ?_;intro v1 w1 ff dK _ fX;have H1:=jq (And.intro ff (And.intro dK fX));clear ff dK fX);obtain⟨o1,g1,a1⟩:=H1.out;refine⟨⟨8,by omega,rfl,jq ?_,jq (HH.out.trans ((qy g1 a1).of_below ((vQ _ wr).alloc (bQ _) _)))⟩,by simp[intOf]⟩;rw[List.range_succ,List.map_append,<-List.append_assoc];refine sE ?_ o1;simp
   try omega
  ·go_wp2_with fail;go_ret;exact⟨_,rfl,HO.out,HH.out⟩
def Np.dig(d:Int)(bs:List Int):Int:=bs.foldl (λd c=>IntKind.u64.wrap (bits .xor .u64 d (IntKind.u64.wrap c) * 1099511628211)) d
def rk(w:World)(b:Nat)(v:Value)(bs:List Int):Prop:=∃ A c,v = .slice A bs.length c/\bs.length<=140737488355328/\bs.length<=c/\∀ i x,bs[i]?=some x->∃ k o,A=some ⟨k,o,none⟩/\k≠b/\k<w.heap.size/\w.cell? ⟨k,o+i,none⟩=some (.int .u8 x)
theorem asJ(d:Int)(bs:List Int)(k:Nat)(h:k<bs.length):Np.dig d (bs.take (k+1))=IntKind.u64.wrap (bits .xor .u64 (Np.dig d (bs.take k)) (IntKind.u64.wrap bs[k]) * 1099511628211):=by
 rw[List.take_add_one,aQ h,Np.dig,List.foldl_append];rfl
theorem asZ(d:Int)(a b:List Int):Np.dig d (a++b)=Np.dig (Np.dig d a) b:=List.foldl_append
theorem aMY{w:World}{b:Nat}{u v:Value}{t:TypeId}(h:w.heap[b]?=some (.cells #[u] t)):(w.setCell ⟨b,0,none⟩ v).heap[b]?=some (.cells #[v] t):=by
 simp[World.setCell,Array.getElem?_modify,h]
theorem E4(b:Nat)(d:Int)(v:Value)(bs:List Int)(w:World)(t:TypeId)(hc:w.heap[b]?=some (.cells #[.int .u64 d] t))(hv:rk w b v bs) :
 Calls prog 131 #[.pointer (some ⟨b,0,none⟩),v] w λe w'=>e = .returned (.tuple #[])/\Turned b w w'/\w'.heap[b]?=some (.cells #[.int .u64 (Np.dig d bs)] t):=by
 have HV:=jq hv;obtain⟨A,cap,rfl,_⟩:=hv;go_enter func131,ntmps131;go_wp2_with fail;go_loopw [8] (λi wr=>∃ k:Nat,k<=bs.length/\i = .int .i64 k/\Turned b w wr/\wr.heap[b]?=some (.cells #[.int .u64 (Np.dig d (bs.take k))] t)) (λi _=>bs.length - (intOf i).toNat)
 case atStart=>exact⟨0,by omega,rfl,Turned.refl _ _,by simpa [Np.dig] using hc⟩
 case round=>
  obtain⟨k,hk,rfl,ht,ou⟩:=hrel;by_cases ag:k<bs.length
  ·obtain⟨A',c',hA',_,_,dS⟩:=HV.out
   cases hA'
   obtain⟨g,o,rfl,fp,nE,hce⟩:=dS k _ (aQ ag);have h0:wr.cell? ⟨g,o+k,none⟩=some (.int .u8 bs[k]):=(ht.cell fp).trans hce;have h1:wr.cell? ⟨b,0,none⟩=some (.int .u64 (Np.dig d (bs.take k))):=by unfold World.cell?;rw[ou];rfl
   have h2:wr.frozen? ⟨b,0,none⟩=false:=by unfold World.frozen?;rw[ou];rfl
   clear dS hce;have HT:=jq ht;have HC:=jq ou;clear ht ou;go_wp2_with fail;refine⟨⟨k+1,by omega,rfl,HT.out.trans (bFY _ _ _),?_⟩,by simp[intOf];omega⟩;rw[aMY HC.out];rw[asJ d bs k ag]
  ·have:k=bs.length:=by omega
   subst this;have HT:=jq ht;have HC:=jq ou;clear ht ou;go_wp2_with fail;go_end0;exact⟨rfl,HT.out,by simpa using HC.out⟩
theorem aCK(b:Nat)(w:World):w.grownBy w (some b):=⟨rfl,rfl,rfl,bQ _,λ_ _ _=>rfl⟩
theorem QW{b:Nat}{u v w:World}(h:u.grownBy v (some b))(k:v.grownBy w (some b)):u.grownBy w (some b):=
 ⟨k.os.trans h.os,k.tape.trans h.tape,k.output.trans h.output,yQ h.size k.size,λi hi hne=>(k.block i (lqQ hi h.size) hne).trans (h.block i hi hne)⟩
theorem aCZ{b:Nat}{w w':World}(h:Below w.heap.size w w'):w.grownBy w' (some b):=⟨h.os,h.tape,h.output,h.size,λi hi _=>h.block i hi⟩
theorem aCJ{b:Nat}{w w':World}(h:w.grownBy w' (some b)){p:Addr}(hp:p.block≠b)(hl:p.block<w.heap.size):w'.cell? p=w.cell? p:=by
 unfold World.cell?;rw[h.block _ hl (λe=>hp (by simpa using e))]
def Np.wT(n:Int)(i:Nat):Int:=IntKind.u64.wrap n / 2 ^ (56 - 8 * i) % 256
def Np.js(n:Int)(k:Nat):Array Value:=((List.range 8).map λi=>Value.int .u8 (if i<k then Np.wT n i else 0)).toArray
theorem bIJ(wr:World)(n:Int):wr.alloc (.cells ((Np.js n 0).setIfInBounds 0 (.int .u8 (IntKind.u64.wrap n / 72057594037927936 % 256))) 165)=wr.alloc (.cells (Np.js n 1) 165):=rfl
theorem bIK(wr:World)(n:Int):wr.alloc (.cells ((Np.js n 1).setIfInBounds 1 (.int .u8 (IntKind.u64.wrap n / 281474976710656 % 256))) 165)=wr.alloc (.cells (Np.js n 2) 165):=rfl
theorem bIX(wr:World)(n:Int):wr.alloc (.cells ((Np.js n 2).setIfInBounds 2 (.int .u8 (IntKind.u64.wrap n / 1099511627776 % 256))) 165)=wr.alloc (.cells (Np.js n 3) 165):=rfl
theorem bIY(wr:World)(n:Int):wr.alloc (.cells ((Np.js n 3).setIfInBounds 3 (.int .u8 (IntKind.u64.wrap n / 4294967296 % 256))) 165)=wr.alloc (.cells (Np.js n 4) 165):=rfl
theorem bJQ(wr:World)(n:Int):wr.alloc (.cells ((Np.js n 4).setIfInBounds 4 (.int .u8 (IntKind.u64.wrap n / 16777216 % 256))) 165)=wr.alloc (.cells (Np.js n 5) 165):=rfl
theorem bJZ(wr:World)(n:Int):wr.alloc (.cells ((Np.js n 5).setIfInBounds 5 (.int .u8 (IntKind.u64.wrap n / 65536 % 256))) 165)=wr.alloc (.cells (Np.js n 6) 165):=rfl
theorem bJJ(wr:World)(n:Int):wr.alloc (.cells ((Np.js n 6).setIfInBounds 6 (.int .u8 (IntKind.u64.wrap n / 256 % 256))) 165)=wr.alloc (.cells (Np.js n 7) 165):=rfl
theorem bJK(wr:World)(n:Int):wr.alloc (.cells ((Np.js n 7).setIfInBounds 7 (.int .u8 (IntKind.u64.wrap n % 256))) 165)=wr.alloc (.cells (Np.js n 8) 165):=by
 rw[<-Int.ediv_one (IntKind.u64.wrap n)];rfl
theorem bJX(wr:World)(b:Nat)(n:Int)(h:b<wr.heap.size):rk (wr.alloc (.cells (Np.js n 8) 165)) b (.slice (some ⟨wr.heap.size,0,none⟩) 8 8) ((List.range 8).map (Np.wT n)):=by
 refine⟨_,8,rfl,by simp,by simp,λi x hx=>⟨wr.heap.size,0,rfl,by omega,by simp,?_⟩⟩;have hi:i<8:=by have:=(cQ.1 hx).1;simpa using this
 simp[hi] at hx;subst hx
 have:(Np.js n 8)[i]?=some (.int .u8 (Np.wT n i)):=by simp[Np.js,hi]
 unfold World.cell?;simp only[World.alloc_heap_new];simpa using this
theorem bgK(b:Nat)(d:Int)(xs:List Int)(w:World)(t:TypeId)(hc:w.heap[b]?=some (.cells #[.int .u64 d] t))(A0:Nat)(hv:∀ i x,xs[i]?=some x->w.cell? ⟨A0,i,none⟩=some (.int .i64 x))(hA:A0≠b)(hA':A0<w.heap.size)(hl:xs.length<=100) :
 Calls prog 130 #[.slice (some ⟨A0,0,none⟩) xs.length xs.length,.pointer (some ⟨b,0,none⟩)] w λe w'=>e = .returned (.tuple #[])/\w.grownBy w' (some b)/\w'.heap[b]?=some (.cells #[.int .u64 (Np.dig d (xs.flatMap λn=>(List.range 8).map (Np.wT n)))] t):=by
 have cO:b<w.heap.size:=(eQ.1 hc).1;have HV:=jq hv;clear hv;go_enter func130,ntmps130;go_wp2_with fail;go_loopw [9] (λi wr=>∃ k:Nat,k<=xs.length/\i = .int .i64 k/\w.grownBy wr (some b)/\wr.heap[b]?=some (.cells #[.int .u64 (Np.dig d ((xs.take k).flatMap λn=>(List.range 8).map (Np.wT n)))] t)) (λi _=>xs.length - (intOf i).toNat)
 case atStart=>exact⟨0,by omega,rfl,aCK _ _,by simpa [Np.dig] using hc⟩
 case round=>
  obtain⟨k,hk,rfl,ht,ou⟩:=hrel;have aB:=ht.size;by_cases ag:k<xs.length
  ·have h0:wr.cell? ⟨A0,k,none⟩=some (.int .i64 xs[k]):=(aCJ ht hA hA').trans (HV.out k _ (aQ ag));have HT:=jq ht;have HC:=jq ou;clear ht ou;go_wp2_with fail;go_loopw [13] (λi wi=>∃ j:Nat,j<=8/\i = .int .i64 j/\wi=wr.alloc (.cells (Np.js xs[k] j) 165)) (λi _=>8 - (intOf i).toNat)
   case atStart=>exact⟨0,by omega,rfl,rfl⟩
   case round=>
    obtain⟨j,hj,rfl,rfl⟩:=hrel;rcases (by omega:j=0\/j=1\/j=2\/j=3\/j=4\/j=5\/j=6\/j=7\/j=8) with rfl | rfl | rfl | rfl | rfl | rfl | rfl | rfl | rfl
    ·go_wp2_with fail;exact⟨⟨1,by omega,rfl,bIJ wr xs[k]⟩,by simp[intOf]⟩
    ·go_wp2_with fail;exact⟨⟨2,by omega,rfl,bIK wr xs[k]⟩,by simp[intOf]⟩
    ·go_wp2_with fail;exact⟨⟨3,by omega,rfl,bIX wr xs[k]⟩,by simp[intOf]⟩
    ·go_wp2_with fail;exact⟨⟨4,by omega,rfl,bIY wr xs[k]⟩,by simp[intOf]⟩
    ·go_wp2_with fail;exact⟨⟨5,by omega,rfl,bJQ wr xs[k]⟩,by simp[intOf]⟩
    ·go_wp2_with fail;exact⟨⟨6,by omega,rfl,bJZ wr xs[k]⟩,by simp[intOf]⟩
    ·go_wp2_with fail;exact⟨⟨7,by omega,rfl,bJJ wr xs[k]⟩,by simp[intOf]⟩
    ·go_wp2_with fail;exact⟨⟨8,by omega,rfl,bJK wr xs[k]⟩,by simp[intOf]⟩
    ·go_wp2_with (go_at_call 131;refine (E4 b _ _ ((List.range 8).map (Np.wT xs[k])) _ t ((@heap_alloc_old _ _ _ (by omega)).trans HC.out) (bJX wr b xs[k] (by omega))).mono ?_;rintro e w' ⟨rfl,vt,aR⟩;have I4:=jq vt;have cN:=jq aR;clear vt aR);refine⟨⟨k+1,by omega,rfl,QW HT.out (QW (aCZ ((vQ _ wr).alloc (bQ _) _)) I4.out.grown),?_⟩,by simp[intOf];omega⟩;rw[cN.out,List.take_add_one,aQ ag,List.flatMap_append,asZ];simp
  ·have:k=xs.length:=by omega
   subst this;have HT:=jq ht;have HC:=jq ou;clear ht ou;go_wp2_with fail;go_end0;exact⟨rfl,HT.out,by simpa using HC.out⟩
end
section
open Go.RowKit Go.MapKept
def pH(p:Int×List UInt8):Value:=.agg #[.int .i64 p.1,bB p.2]
def rD(r:Nat)(kvs:List ((Int×List UInt8)×Value))(w:World):Prop:=∃ es,w.heap[r]?=some (.map es es.size)/\es.toList.map (λe=>(e.key,e.val))=kvs.map (λp=>(pH p.1,p.2))/\∀ (i:Nat) (e:MapEntry),es[i]?=some e->e.born=i
theorem rD.lt{r:Nat}{kvs:List ((Int×List UInt8)×Value)}{w:World}(h:rD r kvs w):r<w.heap.size:=by
 obtain⟨es,h,_⟩:=h;exact (eQ.1 h).1
theorem rD.keep{r:Nat}{kvs:List ((Int×List UInt8)×Value)}{w w':World}{n:Nat}(h:rD r kvs w)(hb:Below n w w')(hn:r<n):rD r kvs w':=by
 obtain⟨es,h,h2⟩:=h;exact⟨es,(hb.block r hn).trans h,h2⟩
theorem rD.keep'{r:Nat}{kvs:List ((Int×List UInt8)×Value)}{w w':World}(h:rD r kvs w)(hb:w'.heap[r]?=w.heap[r]?):rD r kvs w':=by
 obtain⟨es,h,h2⟩:=h;exact⟨es,hb.trans h,h2⟩
theorem rD.made(w:World):rD w.heap.size [] (w.alloc (.map #[] 0)):=⟨#[],heap_alloc_new _ _,rfl,λi e h=>by simp at h⟩
end
section
open Go.RowKit
def Np.Av(s:ByteArray):List Int:=s.data.toList.map λc=>(c.toNat:Int)
def Np.sum(bs:List Int)(z:ByteArray)(n a f u:Int):Int:=Np.dig (Np.dig (Np.dig (Np.dig 14695981039346656037 bs) [(z.size:Int)]) (Np.Av z)) ([n,a,f,u].flatMap λn=>(List.range 8).map (Np.wT n))
theorem aiZ(w:World)(o1 o2:Obj):((w.alloc o1).alloc o2).heap[w.heap.size+1]?=some o2:=by
 have:=World.alloc_heap_new (w.alloc o1) o2
 rwa [World.size_alloc] at this
theorem alJ(w:World)(b g:Nat)(hg:g=w.heap.size)(hb:b<w.heap.size)(bs:List Int)(t:TypeId)(hl:bs.length<=140737488355328):rk (w.alloc (.cells (bs.map (Value.int .u8)).toArray t)) b (.slice (some ⟨g,0,none⟩) bs.length bs.length) bs:=by
 subst hg;refine⟨_,_,rfl,hl,bQ _,λi x hx=>⟨w.heap.size,0,rfl,by omega,by simp,?_⟩⟩;unfold World.cell?;simp only[World.alloc_heap_new];simp[hx]
theorem alK(w:World)(b g:Nat)(hg:g=w.heap.size)(hb:b<w.heap.size)(z:ByteArray)(t:TypeId)(hl:z.size<=255):rk (Lib.bytesWorld w t z) b (.slice (some ⟨g,0,none⟩) z.size (grownCap w z.size 0 t)) (Np.Av z):=by
 subst hg;have hlen:(Np.Av z).length=z.size:=by simp[Np.Av]
 refine⟨_,grownCap w z.size 0 t,by rw[hlen],by omega,by rw[hlen];exact grownCap_ge _ _ _ _,λi x hx=>⟨w.heap.size,0,rfl,by omega,by rw[Lib.bytesWorld_size];omega,?_⟩⟩;have hi:i<z.size:=by have:=(cQ.1 hx).1;omega
 rw[show (0+i)=i by omega,Lib.bytesWorld_cell _ _ _ _ hi];simp[Np.Av] at hx;obtain⟨c,hc,rfl⟩:=hx;simp[List.getD,hc]
theorem a4Q(w:World)(g:Nat)(hg:g=w.heap.size)(xs:List Int)(t:TypeId):∀ i x,xs[i]?=some x->(w.alloc (.cells (xs.map (Value.int .i64)).toArray t)).cell? ⟨g,i,none⟩=some (.int .i64 x):=by
 subst hg;intro i x hx;unfold World.cell?;simp only[World.alloc_heap_new];simp[hx]
theorem akX{b n:Nat}{w w':World}(h:w.grownBy w' (some b))(hn:n<=b)(hs:n<=w.heap.size):Below n w w':=⟨h.os,h.tape,h.output,h.size,λi hi=>h.block i (by omega) (λe=>by simp at e;omega)⟩
theorem rk.grow{w w':World}{b b':Nat}{v:Value}{bs:List Int}(h:rk w b v bs)(hb:Below w.heap.size w w')(hb':w.heap.size<=b'):rk w' b' v bs:=by
 obtain⟨A,c,hv,h1,h2,h3⟩:=h;refine⟨A,c,hv,h1,h2,λi x hx=>?_⟩;obtain⟨k,o,hA,hk,hk',hce⟩:=h3 i x hx;exact⟨k,o,hA,by omega,lqQ hk' hb.size,(hb.cell hk').trans hce⟩
theorem bEK(v:Value)(bs:List Int)(z:ByteArray)(hz:z.size<=255)(n al f u:Int)(w:World)(hv:rk w w.heap.size v bs) :
 Calls prog 62 #[v,.string z,.agg #[.int .i64 n,.int .i64 al],.int .i64 f,.int .i64 u] w (aCX w.heap.size w (.int .u64 (Np.sum bs z n al f u))):=by
 have HV:=jq hv;obtain⟨A,cap,rfl,_⟩:=hv;have hcv:∀ W,(convert 9 108 (.string z)).run prog W = .ok (.slice (some ⟨W.heap.size,0,none⟩) z.size (grownCap W z.size 0 5)) (Lib.bytesWorld W 5 z):=λW=>Lib.run_convert_string_bytes W _ _ _ z underlying9 underlying108 underlying5;have hcs:∀ W,(Lib.bytesWorld W 5 z).heap.size=W.heap.size+1:=λW=>Lib.bytesWorld_size _ _ _;go_enter func62,ntmps62;go_wp2_with (first
  | (go_at_call 131;have hv:=HV.out;clear HV;refine (E4 (w.heap.size+1) _ _ bs _ 163 (aiZ w _ _) (hv.grow (((vQ _ w).alloc (bQ _) _).alloc (by simp) _) (by omega))).mono ?_;rintro e w1 ⟨rfl,vt,aR⟩;have cJ:=vt.size;simp only[World.size_alloc] at cJ;have k0:w1.cell? ⟨w.heap.size,0,none⟩=some (.int .i64 n):=by { rw[vt.cell (by simp)];go_simp };have k1:w1.cell? ⟨w.heap.size,1,none⟩=some (.int .i64 al):=by { rw[vt.cell (by simp)];go_simp };have I4:=jq vt;have cN:=jq aR;clear vt aR hv)
  | (go_at_call 131;have aR:=cN.out;clear cN;refine (E4 (w.heap.size+1) _ _ [(z.size:Int)] _ 163 ((@heap_alloc_old _ _ _ (by omega)).trans aR) (alJ w1 (w.heap.size+1) (w.heap.size+1+1) cJ.symm (by omega) [(z.size:Int)] 5 (by simp))).mono ?_;rintro e w2 ⟨rfl,zT,cH⟩;have ga:=zT.size;simp only[World.size_alloc] at ga;have k02:w2.cell? ⟨w.heap.size,0,none⟩=some (.int .i64 n):=by { rw[zT.cell (by simp)];go_simp };have k12:w2.cell? ⟨w.heap.size,1,none⟩=some (.int .i64 al):=by { rw[zT.cell (by simp)];go_simp };have I5:=jq zT;have dH:=jq cH;clear zT cH aR)
  | (go_at_call 131;have cH:=dH.out;clear dH;refine (E4 (w.heap.size+1) _ _ (Np.Av z) _ 163 ((Lib.bytesWorld_at_old _ _ _ _ (by omega)).trans cH) (alK w2 (w.heap.size+1) _ (by omega) (by omega) z 5 (by omega))).mono ?_;rintro e w3 ⟨rfl,Di,nB⟩;have bR:=Di.size;simp only[Lib.bytesWorld_size] at bR;have k03:w3.cell? ⟨w.heap.size,0,none⟩=some (.int .i64 n):=by { rw[Di.cell (by simp),Lib.bytesWorld_old _ _ _ _ (by simp;omega)];exact k02 };have k13:w3.cell? ⟨w.heap.size,1,none⟩=some (.int .i64 al):=by { rw[Di.cell (by simp),Lib.bytesWorld_old _ _ _ _ (by simp;omega)];exact k12 };have EM:=jq Di;have gj:=jq nB;clear Di nB cH)
  | (go_at_call 130;have nB:=gj.out;clear gj;refine (bgK (w.heap.size+1) _ [n,al,f,u] _ 163 ((@heap_alloc_old _ _ _ (by omega)).trans nB) (w.heap.size+1+1+1+1) (a4Q w3 _ (by omega) [n,al,f,u] 3) (by omega) (by simp;omega) (by simp)).mono ?_;rintro e w4 ⟨rfl,Lb,uO⟩;have qN:=Lb.size;simp only[World.size_alloc] at qN;have d4:w4.cell? ⟨w.heap.size+1,0,none⟩=some (.int .u64 (Np.sum bs z n al f u)):=by { unfold World.cell?;rw[uO];rfl };have Y6:=jq Lb;clear Lb uO nB))
 go_ret;refine⟨rfl,?_⟩;have b1:Below w.heap.size w w1:=(((vQ _ w).alloc (bQ _) _).alloc (by simp) _).trans (I4.out.below (by omega));have b2:Below w.heap.size w w2:=(b1.alloc b1.size _).trans (I5.out.below (by omega));have b3:Below w.heap.size w w3:=(b2.trans (akK w2 _ z b2.size)).trans (EM.out.below (by omega));exact (b3.alloc b3.size _).trans (akX Y6.out (by omega) (by simp;omega))
section
variable {P:Program} (w:World)
end
theorem Tryz.infoByte:(prog.info? 5).map (λi=>(i.zero,i.size,i.bytes))=some (some (.int .u8 0),1,1):=by kernel_rfl
end
section
open Go.RowKit Go.MapKept
def pJ(p:List UInt8×Int):Value:=.agg #[bB p.1,.int .i64 p.2]
def fB(r:Nat)(kvs:List ((List UInt8×Int)×Value))(w:World):Prop:=∃ es,w.heap[r]?=some (.map es es.size)/\es.toList.map (λe=>(e.key,e.val))=kvs.map (λp=>(pJ p.1,p.2))/\∀ (i:Nat) (e:MapEntry),es[i]?=some e->e.born=i
theorem fB.lt{r:Nat}{kvs:List ((List UInt8×Int)×Value)}{w:World}(h:fB r kvs w):r<w.heap.size:=by
 obtain⟨es,h,_⟩:=h;exact (eQ.1 h).1
theorem fB.keep{r:Nat}{kvs:List ((List UInt8×Int)×Value)}{w w':World}{n:Nat}(h:fB r kvs w)(hb:Below n w w')(hn:r<n):fB r kvs w':=by
 obtain⟨es,h,h2⟩:=h;exact⟨es,(hb.block r hn).trans h,h2⟩
theorem fB.keep'{r:Nat}{kvs:List ((List UInt8×Int)×Value)}{w w':World}(h:fB r kvs w)(hb:w'.heap[r]?=w.heap[r]?):fB r kvs w':=by
 obtain⟨es,h,h2⟩:=h;exact⟨es,hb.trans h,h2⟩
theorem fB.made(w:World):fB w.heap.size [] (w.alloc (.map #[] 0)):=⟨#[],heap_alloc_new _ _,rfl,λi e h=>by simp at h⟩
theorem awX(p q:List UInt8×Int)(w:World):(Op.equal 27 (pJ p) (pJ q)).run prog w = .ok (decide (p=q)) w:=by
 obtain⟨a,n⟩:=p;obtain⟨b,m⟩:=q;have u3:=underlying3;have a3:=isAgg3;have z3:=sizeOf3;have u9:=underlying9;have a9:=isAgg9;have z9:=sizeOf9;have hS:prog.underlying 27=some (.struct (prog.fieldsOf 27)):=by kernel_rfl
 have hp:prog.stoodInHeld 27=false:=by kernel_rfl
 show (Op.equalIn 10000 27 (.agg #[.string ⟨a.toArray⟩,.int .i64 n]) (.agg #[.string ⟨b.toArray⟩,.int .i64 m])).run prog w=_;rw[show (10000:Nat)=9999+1 from rfl,run_equalIn_agg w 9999 27 _ _ hS hp];simp only[Program.fieldsOf,underlying27];go_simp;by_cases h0:a=b<;>by_cases h1:n=m<;>simp[h0,h1]
theorem P2(b:Bool)(p:List UInt8×Int)(w:World):(Instr.checkKey b 10000 27 (pJ p)).run prog w = .ok () w:=by
 have hS:=underlying27;have hs:∀ s w,(Instr.checkKey b 9999 9 (.string s)).run prog w = .ok () w:=λs w=>MapKept.run_checkKey (k:=.string s) underlying9 (by simp[MapKept.IsKey]) b 9998;have hi:∀ n w,(Instr.checkKey b 9999 3 (.int .i64 n)).run prog w = .ok () w:=λn w=>MapKept.run_checkKey (k:=.int .i64 n) underlying3 (by simp[MapKept.IsKey]) b 9998;have a3:=isAgg3;have z3:=sizeOf3;have a9:=isAgg9;have z9:=sizeOf9;rw[show (10000:Nat)=9999+1 from rfl,Instr.checkKey];simp only[pJ,bB];simp[run_underlying hS,go_sem,Result.andThen,hs,hi]
theorem ayK{fs:Array Field}{k:Value}{e:MapEntry}{es:List MapEntry}(i:Nat):Instr.findNow (.struct fs) k (e::es) i=none:=by
 simp only[Instr.findNow];rfl
theorem PS(p:List UInt8×Int)(w:World):∀ (es:List MapEntry) (kvs:List ((List UInt8×Int)×Value)) (i:Nat),es.map (λe=>(e.key,e.val))=kvs.map (λq=>(pJ q.1,q.2))->
 (∀ v,kvs.lookup p=some v->∃ j,(es[j]?).map (λe=>(e.key,e.val))=some (pJ p,v)/\kvs[j]?=some (p,v)/\(Instr.findAsking 27 (pJ p) es i).run prog w = .ok (some (i+j,v)) w)/\(kvs.lookup p=none->(Instr.findAsking 27 (pJ p) es i).run prog w = .ok none w)
 | [],kvs,i,h=>by
   cases kvs with
   | nil=>exact⟨λv h=>by simp at h,λ_=>by rw[Instr.findAsking];rfl⟩
   | cons=>simp at h
 | e::es,kvs,i,h=>by
   cases kvs with
   | nil=>simp at h
   | cons q kvs=>
    obtain⟨q,u⟩:=q;simp only[List.map_cons,List.cons.injEq,Prod.mk.injEq] at h;obtain⟨⟨h1,h2⟩,h3⟩:=h;obtain⟨i1,i2⟩:=PS p w es kvs (i+1) h3;have hq:=awX p q w;rw[<-h1] at hq;by_cases r8:p=q
    ·have hd:decide (p=q)=true:=by simpa using r8
     rw[hd] at hq;have hr:(Instr.findAsking 27 (pJ p) (e::es) i).run prog w = .ok (some (i,u)) w:=by
      rw[Instr.findAsking];simp[hq,h2]
     subst r8;refine⟨λv hv=>⟨0,?_,?_,?_⟩,λhn=>?_⟩
     ·rw[List.lookup_cons_self] at hv;cases hv;simp[h1,h2]
     ·rw[List.lookup_cons_self] at hv;cases hv;rfl
     ·rw[List.lookup_cons_self] at hv;cases hv;exact hr
     ·rw[List.lookup_cons_self] at hn;cases hn
    ·have hd:decide (p=q)=false:=by simpa using r8
     rw[hd] at hq;have hb:(p == q)=false:=by simpa using r8
     have hr:(Instr.findAsking 27 (pJ p) (e::es) i).run prog w=(Instr.findAsking 27 (pJ p) es (i+1)).run prog w:=by
      rw[Instr.findAsking];simp[hq]
     have hl:((q,u)::kvs).lookup p=kvs.lookup p:=by rw[List.lookup_cons,hb]
     rw[hr,hl];refine⟨λv hv=>?_,i2⟩;obtain⟨j,j1,j2,j3⟩:=i1 v hv;exact⟨j+1,by simpa using j1,by simpa using j2,by rw[show i+(j+1)=i+1+j by omega];exact j3⟩
theorem QE(p:List UInt8×Int)(w:World)(es:List MapEntry)(kvs:List ((List UInt8×Int)×Value))(h:es.map (λe=>(e.key,e.val))=kvs.map (λq=>(pJ q.1,q.2))) :
 (∀ v,kvs.lookup p=some v->∃ j,(es[j]?).map (λe=>(e.key,e.val))=some (pJ p,v)/\kvs[j]?=some (p,v)/\(Instr.findKey 27 (pJ p) es).run prog w = .ok (some (j,v)) w)/\(kvs.lookup p=none->(Instr.findKey 27 (pJ p) es).run prog w = .ok none w):=by
 have hS:=underlying27
 cases es with
 | nil=>
  cases kvs with
  | nil=>exact⟨λv h=>by simp at h,λ_=>by simp[Instr.findKey,run_underlying hS,Instr.findNow]⟩
  | cons=>simp at h
 | cons e es=>
  obtain⟨i1,i2⟩:=PS p w (e::es) kvs 0 h;have hr:(Instr.findKey 27 (pJ p) (e::es)).run prog w=(Instr.findAsking 27 (pJ p) (e::es) 0).run prog w:=by
   simp[Instr.findKey,run_underlying hS,ayK]
  rw[hr];refine⟨λv hv=>?_,i2⟩;obtain⟨j,j1,j2,j3⟩:=i1 v hv;exact⟨j,j1,j2,by rw[j3,Nat.zero_add]⟩
theorem DL(w:World)(t et:TypeId)(ht:prog.underlying t=some (.map 27 et))(r:Nat)(kvs:List ((List UInt8×Int)×Value))(hr:fB r kvs w)(p:List UInt8×Int)(z:Value)(hz:(zeroValue et).run prog w = .ok z w) :
 (Instr.lookup t (.map (some r)) (pJ p) true).run prog w = .ok (.tuple #[(kvs.lookup p).getD z,.bool (kvs.lookup p).isSome]) w:=by
 obtain⟨es,hr,he,_⟩:=hr;have hf:=QE p w es.toList kvs he;have hc:∀ b,(Instr.checkKey b 10000 27 (pJ p)).run prog w = .ok () w:=λb=>P2 b p w
 cases hl:kvs.lookup p with
 | none=>simp[Instr.lookup,run_underlying ht,MapKept.run_getObj_map hr,hc,hf.2 hl,Result.andThen,hz]
 | some v=>
  obtain⟨j,_,_,hj⟩:=hf.1 v hl;simp[Instr.lookup,run_underlying ht,MapKept.run_getObj_map hr,hc,hj,Result.andThen]
theorem Vw{ops:Array Oper}{rest:List Oper}{o:Oper}{a:Act}{Q:Exit->Act->World->Prop}(w:World)(hg:o.guard=none)(m x v:Operand)(t:TypeId)(zJ:o.op=Op.mapUpdate t m x v)(et:TypeId)(ht:prog.underlying t=some (.map 27 et))
 (r:Nat) (kvs:List ((List UInt8×Int)×Value)) (hm:a.eval m = .map (some r)) (hr:fB r kvs w) (p:List UInt8×Int) (hx:a.eval x=pJ p) (val:Value) (hv:a.eval v=val) (dL:kvs.lookup p=none)
 (hK:∀ w',fB r (kvs ++ [(p,val)]) w'->Turned r w w'->wpList prog ops Q rest (a.put o.dst undef) w'):wpList prog ops Q (o::rest) a w:=by
 obtain⟨es,hr,he,aJY⟩:=hr;have hf:=(QE p w es.toList kvs he).2 dL;refine wpList_plain hg λK' hK'=>?_;have hc:(Instr.checkKey false 10000 27 (pJ p)).run prog w = .ok () w:=P2 false p w;have jI:(Instr.mapUpdate t (.map (some r)) (pJ p) val).run prog w = .ok () { w with heap:=w.heap.setIfInBounds r (.map (es.push { key:=pJ p,val:=val,born:=es.size }) (es.size+1)) }:=by
  simp[Instr.mapUpdate,run_underlying ht,MapKept.run_getObj_map hr,hc,hf,MapKept.run_setObj_map _ hr,Result.andThen]
 unfold Oper.wp;simp[execOp,zJ,hm,hx,hv,jI,Result.andThen];have hl:r<w.heap.size:=(eQ.1 hr).1;refine hK' _ _ (hK _ ⟨es.push { key:=pJ p,val:=val,born:=es.size },by simp[hl],by simp[he],λi e hi=>?_⟩ ⟨rfl,rfl,rfl,by simp,λi hi=>by simp[Ne.symm hi]⟩);rw[Array.getElem?_push] at hi;split at hi
 ·rename_i h1;cases hi;exact h1.symm
 ·exact aJY i e hi
end
section
open Go.RowKit
structure BldT(T:TypeId):Prop where
 lies:liesAt prog prog.depth T (2 / prog.cellsOf T) 0 268 1=true
 ne:T≠5
def Bld(T:TypeId)(B b:Nat)(r:Option Nat)(l:List UInt8)(w:World):Prop:=
 ∃ p v,(p = .pointer none\/p = .pointer (some ⟨b,0,none⟩))/\B<=b/\w.heap[b]?=some (.cells #[p,v] T (0,0))/\w.ownsRow B 5 1 v l.length (Lib.byteCells l)/\v.ownBlock=r/\r≠some b/\(l = []->v = .slice none 0 0)
structure BS(b:Nat)(r:Option Nat)(w:World)(r':Option Nat)(w':World):Prop where
 os:w'.os=w.os
 tape:w'.tape=w.tape
 output:w'.output=w.output
 size:w.heap.size<=w'.heap.size
 keep:∀ k,k<w.heap.size->k≠b->r≠some k->w'.heap[k]?=w.heap[k]?
 at_:r'=r\/∃ k,w.heap.size<=k/\r'=some k
theorem BS.refl(b:Nat)(r:Option Nat)(w:World):BS b r w r w:=⟨rfl,rfl,rfl,bQ _,λ_ _ _ _=>rfl,.inl rfl⟩
theorem BS.trans{b:Nat}{r r' r'':Option Nat}{w w' w'':World}(h:BS b r w r' w')(k:BS b r' w' r'' w''):BS b r w r'' w'':=by
 refine⟨k.os.trans h.os,k.tape.trans h.tape,k.output.trans h.output,yQ h.size k.size,λi hi hb hr=>?_,?_⟩
 ·refine (k.keep i (lqQ hi h.size) hb (λe=>?_)).trans (h.keep i hi hb hr);rcases h.at_ with e' | ⟨j,hj,e'⟩
  ·rw[e'] at e;exact hr e
  ·rw[e'] at e;simp at e;omega
 ·rcases k.at_ with e | ⟨j,hj,e⟩
  ·rcases h.at_ with e' | ⟨j,hj,e'⟩
   ·exact .inl (e.trans e')
   ·exact .inr ⟨j,hj,e.trans e'⟩
  ·exact .inr ⟨j,yQ h.size hj,e⟩
theorem BS.of_below{b:Nat}{r:Option Nat}{w w':World}(h:Below w.heap.size w w'):BS b r w r w':=⟨h.os,h.tape,h.output,h.size,λk hk _ _=>h.block k hk,.inl rfl⟩
theorem BS.after{b:Nat}{r r':Option Nat}{w w' w'':World}(h:BS b r w r' w')(k:Below w'.heap.size w' w''):BS b r w r' w'':=h.trans (BS.of_below k)
theorem BS.below{b:Nat}{r r':Option Nat}{w w':World}{n:Nat}(h:BS b r w r' w')(hb:n<=b)(hr:∀ k,r=some k->n<=k)(hn:n<=w.heap.size):Below n w w':=
 ⟨h.os,h.tape,h.output,h.size,λk hk=>h.keep k (by omega) (by omega) (λe=>by have:=hr k e;omega)⟩
theorem BS.cell{b:Nat}{r r':Option Nat}{w w':World}(h:BS b r w r' w'){k:Nat}(hk:k<w.heap.size)(hb:k≠b)(hr:r≠some k)(o:Nat):w'.cell? ⟨k,o,none⟩=w.cell? ⟨k,o,none⟩:=iQ (w:=w) (h.keep k hk hb hr)
theorem BS.free{b:Nat}{r r':Option Nat}{w w':World}(h:BS b r w r' w'){k:Nat}(hk:k<w.heap.size)(hr:r≠some k):r'≠some k:=λe=>by
 rcases h.at_ with e' | ⟨j,hj,e'⟩
 ·rw[e'] at e;exact hr e
 ·rw[e'] at e;simp at e;omega
theorem Bld.row{T:TypeId}{B b:Nat}{r:Option Nat}{l:List UInt8}{w:World}(h:Bld T B b r l w):B<=b/\b<w.heap.size/\∀ k,r=some k->B<=k/\k<w.heap.size:=by
 obtain⟨p,v,_,hB,hb,ho,rfl,_,_⟩:=h;exact⟨hB,(eQ.1 hb).1,λk hk=>ho.lt k hk⟩
theorem Bld.keep{T:TypeId}{B b:Nat}{r:Option Nat}{l:List UInt8}{w w':World}(h:Bld T B b r l w)(hb:Below w.heap.size w w'):Bld T B b r l w':=by
 have hrow:=h.row;obtain⟨p,v,hp,hB,hh,ho,rfl,hne,hn⟩:=h;refine⟨p,v,hp,hB,(hb.block b hrow.2.1).trans hh,ra ho (λg hg=>hb.block g (hrow.2.2 g hg).2),rfl,hne,hn⟩
theorem Bld.fresh(T:TypeId)(w:World):Bld T w.heap.size w.heap.size none [] (w.alloc (.cells #[.pointer none,.slice none 0 0] T)):=
 ⟨_,_,.inl rfl,bQ _,heap_alloc_new w _,World.ownsRow_nil _ _ _ _,rfl,by simp,λ_=>rfl⟩
theorem sizeBuilder:(prog.info? 268).map (·.size)=some 2:=by kernel_rfl
def DY(T:TypeId)(B b:Nat)(l:List UInt8)(w:World):Prop:=
 ∃ p v,B<=b/\w.heap[b]?=some (.cells #[p,v] T (0,0))/\((v = .slice none 0 0/\l = [])\/∃ g cap cur fr,v = .slice (some ⟨g,0,none⟩) l.length cap/\l≠[]/\B<=g/\g≠b/\w.heap[g]?=some (.cells cur 5 fr)/\l.length<=cur.size/\l.length<=cap/\l.length<=9223372036854775807/\cur.toList.take l.length=Lib.byteCells l)
theorem Bld.read{T:TypeId}{B b:Nat}{r:Option Nat}{l:List UInt8}{w:World}(h:Bld T B b r l w):DY T B b l w:=by
 obtain⟨p,v,_,hB,hb,ho,hr,hne,hn⟩:=h;refine⟨p,v,hB,hb,?_⟩;by_cases h0:l = []
 ·exact .inl ⟨hn h0,h0⟩
 ·right;rcases ho.2 with ⟨_,h1⟩ | ⟨g,cap,cur,rfl,rP,hg,mc,kU,hcs,ht⟩
  ·exact absurd (rQ h1) h0
  ·refine⟨g,cap,cur,_,rfl,h0,rP,λe=>hne ?_,hg,by omega,mc,by unfold maxLen at kU;omega,by simpa using ht⟩;rw[<-hr,e];rfl
theorem DY.keep{T:TypeId}{B b:Nat}{l:List UInt8}{w w':World}(h:DY T B b l w)(hb:Below w.heap.size w w'):DY T B b l w':=by
 obtain⟨p,v,hB,hh,hv⟩:=h;refine⟨p,v,hB,(hb.block b (eQ.1 hh).1).trans hh,?_⟩;rcases hv with hv | ⟨g,cap,cur,fr,h1,h2,h3,h4,h5,h6⟩
 ·exact .inl hv
 ·exact .inr ⟨g,cap,cur,fr,h1,h2,h3,h4,(hb.block g (eQ.1 h5).1).trans h5,h6⟩
def Jt(b:Nat)(r:Option Nat)(w:World)(v:Value)(ws:List (List UInt8)):Prop:=
 ∃ A c,v = .slice A ws.length c/\ws.length<=c/\ws.length<=1000000/\∀ i x,ws[i]?=some x->∃ g o,A=some ⟨g,o,none⟩/\g<w.heap.size/\g≠b/\r≠some g/\w.cell? ⟨g,o+i,none⟩=some (bB x)
theorem Jt.step{b:Nat}{r r':Option Nat}{w w':World}{v:Value}{ws:List (List UInt8)}(h:Jt b r w v ws)(hs:BS b r w r' w'):Jt b r' w' v ws:=by
 obtain⟨A,c,h1,h2,h3,h4⟩:=h;refine⟨A,c,h1,h2,h3,λi x hx=>?_⟩;obtain⟨g,o,h5,h6,h7,h8,h9⟩:=h4 i x hx;exact⟨g,o,h5,lqQ h6 hs.size,h7,hs.free h6 h8,(hs.cell h6 h7 h8 _).trans h9⟩
end
end Go.Proofs.YtadhigmjilijcaaGreatDoor
