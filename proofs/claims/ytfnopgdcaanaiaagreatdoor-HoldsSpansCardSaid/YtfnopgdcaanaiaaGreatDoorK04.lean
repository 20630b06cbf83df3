/- Parts of the proof. No condition. -/
import Derived.Shelf.SlicesE.Clone
import Derived.Ground.SlgnProg
import Derived.Ground.SlsfProg
import Derived.Shelf.SlGeneric
import Derived.Shelf.SlSortCmp.WholeK
import Derived.Test.YtfnopgdcaanaiaaGreatDoorProg
import Derived.RangeFuncCalls
import Derived.OrdersIn
import Derived.TacticsIn
import Derived.Test.YtfnopgdcaanaiaaGreatDoorK01
set_option linter.all false
set_option maxRecDepth 100000
set_option maxHeartbeats 8000000
namespace Go.Proofs.YtfnopgdcaanaiaaGreatDoor
namespace Np
structure Sig where
 zone:List UInt8
 key:Int
 alg:Int
 frm:Int
 til:Int
 sum:Int
deriving DecidableEq
structure Signed where
 set:DSet
 sigs:List Sig
deriving DecidableEq
structure Span where
 frm:Int
 til:Int
deriving DecidableEq
def axJ(g x:Sig):Bool:=(x.frm != g.frm)||(x.til != g.til)
def aiQ:List Sig->Bool
 | []=>true
 | g::r=>!(decide (g.frm<0)||decide (g.til<g.frm)||decide (20000000<g.til))&&!((g::r).any (axJ g))
def plain(s:Signed):Bool:=dj s.set&&decide (s.sigs.length<=6)&&aiQ s.sigs
def J5(length drift life:Int):Int:=length - max life 1 - 3 * drift+2
def J4(begin stop length drift life:Int):Prop:=0<=drift/\drift<=1000/\1<=stop/\stop<=10000000/\drift<=begin/\begin<=stop - 1/\1<=length/\length<=10000000/\0<=life/\life<=100000
instance (b s l d f:Int):Decidable (J4 b s l d f):=by unfold J4;infer_instance
def Rs(b s k:Int):List Int:=(List.range ((s - b+k - 1) / k).toNat).map λ(i:Nat)=>b+i * k
def aCX(b s l d f:Int):Int:=if J4 b s l d f then (if J5 l d f<1 then 32 else if 400<(Rs b s (J5 l d f)).length then 2 else 0) else 1
def times(b s l d f:Int):List Int:=if aCX b s l d f=0 then Rs b s (J5 l d f) else []
def inS(l:List Span)(t:Int):Prop:=∃ s∈l,s.frm<=t/\t<s.til
structure ApartS(l:List Span):Prop where
 full:∀ s∈l,s.frm<s.til
 apart:l.Pairwise λa b=>a.til<b.frm
theorem oa(t:Int):¬ inS [] t:=λ⟨_,h,_⟩=>by cases h
theorem iF{a:Span}{l:List Span}{t:Int} : inS (a::l) t↔(a.frm<=t/\t<a.til)\/inS l t:=by
 constructor
 ·rintro⟨s,hs,h⟩;rcases List.mem_cons.1 hs with e | hs
  ·subst e;exact .inl h
  ·exact .inr ⟨s,hs,h⟩
 ·rintro (h | ⟨s,hs,h⟩)
  ·exact⟨a,by simp,h⟩
  ·exact⟨s,mQ _ hs,h⟩
theorem Cl{a b:List Span}{t:Int} : inS (a++b) t↔inS a t\/inS b t:=by
 constructor
 ·rintro⟨s,hs,h⟩;rcases List.mem_append.1 hs with hs | hs
  ·exact .inl ⟨s,hs,h⟩
  ·exact .inr ⟨s,hs,h⟩
 ·rintro (⟨s,hs,h⟩ | ⟨s,hs,h⟩)
  ·exact⟨s,List.mem_append_left _ hs,h⟩
  ·exact⟨s,List.mem_append_right _ hs,h⟩
theorem ApartS.tail{a:Span}{l:List Span}(h:ApartS (a::l)):ApartS l:=⟨λs hs=>h.full s (mQ _ hs),(List.pairwise_cons.1 h.apart).2⟩
theorem ApartS.nil:ApartS []:=⟨λ_ h=>(by cases h),List.Pairwise.nil⟩
theorem ApartS.above{a:Span}{l:List Span}(h:ApartS (a::l)){t:Int}(ht:inS l t):a.til<t:=by
 obtain⟨s,hs,h1,_⟩:=ht
 have:=(List.pairwise_cons.1 h.apart).1 s hs
 omega
theorem ApartS.from{a:Span}{l:List Span}(h:ApartS (a::l)){t:Int}(ht:inS (a::l) t):a.frm<=t:=by
 rcases iF.1 ht with h1 | h1
 ·exact h1.1
 ·have h2:=h.above h1;have h3:=h.full a (by simp);omega
theorem Mj:∀ (l m:List Span),ApartS l->ApartS m->(∀ t,inS l t↔inS m t)->l=m
 | [],[],_,_,_=>rfl
 | [],b::m,_,hm,h=>absurd ((h b.frm).2 ⟨b,by simp,Int.le_refl _,hm.full b (by simp)⟩) (oa _)
 | a::l,[],hl,_,h=>absurd ((h a.frm).1 ⟨a,by simp,Int.le_refl _,hl.full a (by simp)⟩) (oa _)
 | a::l,b::m,hl,hm,h=>by
   have fa:=hl.full a (by simp);have fb:=hm.full b (by simp);have e1:a.frm=b.frm:=by
    have h1:=hm.from ((h a.frm).1 ⟨a,by simp,Int.le_refl _,fa⟩);have h2:=hl.from ((h b.frm).2 ⟨b,by simp,Int.le_refl _,fb⟩);omega
   have e2:a.til=b.til:=by
    rcases Int.lt_trichotomy a.til b.til with aa | he | aa
    ·exfalso
     have:=(h a.til).2 (iF.2 (.inl ⟨by omega,aa⟩))
     rcases iF.1 this with h1 | h1
     ·omega
     ·have:=hl.above h1;omega
    ·exact he
    ·exfalso
     have:=(h b.til).1 (iF.2 (.inl ⟨by omega,aa⟩))
     rcases iF.1 this with h1 | h1
     ·omega
     ·have:=hm.above h1;omega
   have e:a=b:=by obtain⟨_,_⟩:=a;obtain⟨_,_⟩:=b;simp only at e1 e2;rw[e1,e2]
   subst e;rw[Mj l m hl.tail hm.tail (λt=>by
    constructor
    ·intro ht;have h1:=hl.above ht;rcases iF.1 ((h t).1 (iF.2 (.inr ht))) with h2 | h2
     ·omega
     ·exact h2
    ·intro ht;have h1:=hm.above ht;rcases iF.1 ((h t).2 (iF.2 (.inr ht))) with h2 | h2
     ·omega
     ·exact h2)]
def fO(out:List Span)(s:Span):List Span:=
 match out.getLast? with
 | none=>[s]
 | some p=>if s.frm<=p.til then out.dropLast ++ [⟨p.frm,max p.til s.til⟩] else out ++ [s]
theorem Rw(s:Span):fO [] s = [s]:=rfl
theorem Ka(o:List Span)(p s:Span):fO (o ++ [p]) s=if s.frm<=p.til then o ++ [⟨p.frm,max p.til s.til⟩] else o ++ [p] ++ [s]:=by simp[fO]
theorem aDK{out:List Span}{s:Span}(ho:ApartS out)(hs:s.frm<s.til)(hf:∀ p∈out,p.frm<=s.frm):ApartS (fO out s)/\(∀ t,inS (fO out s) t↔inS out t\/(s.frm<=t/\t<s.til))/\∀ p∈fO out s,p.frm<=s.frm:=by
 rcases List.eq_nil_or_concat out with rfl | ⟨o,p,rfl⟩
 ·rw[Rw];refine⟨⟨λx hx=>?_,by simp⟩,λt=>?_,λx hx=>?_⟩
  ·rw[List.mem_singleton] at hx;subst hx;exact hs
  ·rw[iF];constructor
   ·rintro (h | h);exact .inr h;exact absurd h (oa t)
   ·rintro (h | h);exact absurd h (oa t);exact .inl h
  ·rw[List.mem_singleton] at hx;subst hx;exact Int.le_refl _
 ·rw[List.concat_eq_append] at ho hf |-;rw[Ka];have hp:=hf p (by simp);have Es:=ho.full p (by simp);obtain⟨a1,a2,a3⟩:=List.pairwise_append.1 ho.apart;split
  ·rename_i gk;have IY:=Int.le_max_left p.til s.til;have ie:=Int.le_max_right p.til s.til;have hm3:max p.til s.til=p.til\/max p.til s.til=s.til:=by omega
   refine⟨⟨λx hx=>?_,?_⟩,λt=>?_,λx hx=>?_⟩
   ·rcases List.mem_append.1 hx with hx | hx
    ·exact ho.full x (List.mem_append_left _ hx)
    ·rw[List.mem_singleton] at hx;subst hx;dsimp only;omega
   ·refine List.pairwise_append.2 ⟨a1,by simp,λx hx y hy=>?_⟩;rw[List.mem_singleton] at hy;subst hy;exact a3 x hx p (by simp)
   ·rw[Cl,Cl,iF,iF];dsimp only;constructor
    ·rintro (h | h | h)
     ·exact .inl (.inl h)
     ·rcases Int.lt_or_le t p.til with h2 | h2
      ·exact .inl (.inr (.inl ⟨h.1,h2⟩))
      ·exact .inr ⟨by omega,by omega⟩
     ·exact absurd h (oa t)
    ·rintro ((h | h | h) | h)
     ·exact .inl h
     ·exact .inr (.inl ⟨h.1,by omega⟩)
     ·exact absurd h (oa t)
     ·exact .inr (.inl ⟨by omega,by omega⟩)
   ·rcases List.mem_append.1 hx with hx | hx
    ·exact hf x (List.mem_append_left _ hx)
    ·rw[List.mem_singleton] at hx;subst hx;exact hp
  ·rename_i gk;refine⟨⟨λx hx=>?_,?_⟩,λt=>?_,λx hx=>?_⟩
   ·rcases List.mem_append.1 hx with hx | hx
    ·exact ho.full x hx
    ·rw[List.mem_singleton] at hx;subst hx;exact hs
   ·refine List.pairwise_append.2 ⟨ho.apart,by simp,λx hx y hy=>?_⟩;rw[List.mem_singleton] at hy;subst hy;rcases List.mem_append.1 hx with hx | hx
    ·have:=a3 x hx p (by simp);omega
    ·rw[List.mem_singleton] at hx;subst hx;omega
   ·rw[Cl,iF];constructor
    ·rintro (h | h | h)
     ·exact .inl h
     ·exact .inr h
     ·exact absurd h (oa t)
    ·rintro (h | h)
     ·exact .inl h
     ·exact .inr (.inl h)
   ·rcases List.mem_append.1 hx with hx | hx
    ·exact hf x hx
    ·rw[List.mem_singleton] at hx;subst hx;exact Int.le_refl _
theorem Rv:∀ (l out:List Span),ApartS out->(∀ s∈l,s.frm<s.til)->l.Pairwise (λa b=>a.frm<=b.frm)->(∀ p∈out,∀ s∈l,p.frm<=s.frm)->ApartS (l.foldl fO out)/\∀ t,inS (l.foldl fO out) t↔inS out t\/inS l t
 | [],out,ho,_,_,_=>⟨ho,λt=>⟨.inl,λh=>h.elim id (λh=>absurd h (oa t))⟩⟩
 | s::l,out,ho,hf,hs,hp=>by
   obtain⟨h1,h2,h3⟩:=aDK ho (hf s (by simp)) (λp qa=>hp p qa s (by simp));obtain⟨q1,q2⟩:=List.pairwise_cons.1 hs;obtain⟨h4,h5⟩:=Rv l (fO out s) h1 (λx hx=>hf x (mQ _ hx)) q2 (λp qa x hx=>by
    have:=h3 p qa
    have:=q1 x hx
    omega)
   refine⟨h4,λt=>?_⟩;rw[List.foldl_cons,h5,h2,iF,or_assoc]
def nt:List Span->Span->List Span
 | [],s=>[s]
 | x::l,s=>if x.til<s.frm then x::nt l s else if s.til<x.frm then s::x::l else nt l ⟨min s.frm x.frm,max s.til x.til⟩
theorem Kj:∀ (l:List Span) (s:Span),ApartS l->s.frm<s.til->ApartS (nt l s)/\(∀ t,inS (nt l s) t↔inS l t\/(s.frm<=t/\t<s.til))/\∀ b:Int,(∀ x∈l,b<x.frm)->b<s.frm->∀ x∈nt l s,b<x.frm
 | [],s,_,hs=>by
   refine⟨⟨λx hx=>?_,by simp[nt]⟩,λt=>?_,λb _ hb x hx=>?_⟩
   ·rw[nt,List.mem_singleton] at hx;subst hx;exact hs
   ·rw[nt,iF];constructor
    ·rintro (h | h);exact .inr h;exact absurd h (oa t)
    ·rintro (h | h);exact absurd h (oa t);exact .inl h
   ·rw[nt,List.mem_singleton] at hx;subst hx;exact hb
 | x::l,s,hl,hs=>by
   have fx:=hl.full x (by simp);have px:=(List.pairwise_cons.1 hl.apart).1;rw[nt];split
   ·rename_i h1;obtain⟨i1,i2,i3⟩:=Kj l s hl.tail hs;refine⟨⟨λy hy=>?_,List.pairwise_cons.2 ⟨i3 x.til px h1,i1.apart⟩⟩,λt=>?_,λb hb kF y hy=>?_⟩
    ·rcases List.mem_cons.1 hy with e | hy
     ·subst e;exact fx
     ·exact i1.full y hy
    ·rw[iF,i2,iF,or_assoc]
    ·rcases List.mem_cons.1 hy with e | hy
     ·subst e;exact hb y (by simp)
     ·exact i3 b (λz hz=>hb z (mQ _ hz)) kF y hy
   ·rename_i h1;split
    ·rename_i h2;refine⟨⟨λy hy=>?_,List.pairwise_cons.2 ⟨λy hy=>?_,hl.apart⟩⟩,λt=>?_,λb hb kF y hy=>?_⟩
     ·rcases List.mem_cons.1 hy with e | hy
      ·subst e;exact hs
      ·exact hl.full y hy
     ·rcases List.mem_cons.1 hy with e | hy
      ·subst e;exact h2
      ·have:=px y hy;omega
     ·rw[iF,Or.comm]
     ·rcases List.mem_cons.1 hy with e | hy
      ·subst e;exact kF
      ·exact hb y hy
    ·rename_i h2;have hm:min s.frm x.frm<max s.til x.til:=by omega
     obtain⟨i1,i2,i3⟩:=Kj l ⟨min s.frm x.frm,max s.til x.til⟩ hl.tail hm;refine⟨i1,λt=>?_,λb hb kF y hy=>?_⟩
     ·rw[i2,iF];dsimp only;constructor
      ·rintro (h | h)
       ·exact .inl (.inr h)
       ·by_cases h3:s.frm<=t/\t<s.til
        ·exact .inr h3
        ·exact .inl (.inl (by omega))
      ·rintro ((h | h) | h)
       ·exact .inr (by omega)
       ·exact .inl h
       ·exact .inr (by omega)
     ·have:=hb x (by simp)
      exact i3 b (λz hz=>hb z (mQ _ hz)) (by dsimp only;omega) y hy
end Np
end Go.Proofs.YtfnopgdcaanaiaaGreatDoor
namespace Go.Proofs
open YtfnopgdcaanaiaaGreatDoor
open Go.Shelf
def Tryz.sortSpan_ren:Go.Shelf.Ren:=⟨fun | 6=>121 | 15=>186 | 14=>205 | 28=>259 | 29=>260 | 20=>273 | 21=>274 | 22=>275 | 23=>276 | 24=>277 | 25=>278 | 26=>279 | 27=>280 | 46=>335 | 47=>322 | 48=>323 | 49=>336 | 50=>337 | 57=>359 | n=>n,fun | 22=>55 | 24=>110 | 25=>189 | 3=>3 | 39=>249 | 0=>0 | 53=>92 | 55=>48 | 4=>4 | 46=>305 | 45=>304 | 50=>214 | 5=>5 | 9=>9 | 66=>351 | 70=>355 | 76=>376 | 77=>377 | n=>n,fun | n=>n⟩
theorem Tryz.sortSpan:Go.Proofs.SlLaysF0.n6 Tryz.prog Tryz.sortSpan_ren:={
 mixed:=by kernel_rfl
 f6:=⟨Tryz.f121.name,by decide,Tryz.func121.trans (Qd some (by kernel_rfl))⟩
 f14:=⟨Tryz.f205.name,by decide,Tryz.func205.trans (Qd some (by kernel_rfl))⟩
 f15:=Tryz.func186.trans (Qd some (by kernel_rfl))
 f20:=⟨Tryz.f273.name,by decide,Tryz.func273.trans (Qd some (by kernel_rfl))⟩
 f21:=⟨Tryz.f274.name,by decide,Tryz.func274.trans (Qd some (by kernel_rfl))⟩
 f22:=⟨Tryz.f275.name,by decide,Tryz.func275.trans (Qd some (by kernel_rfl))⟩
 f23:=⟨Tryz.f276.name,by decide,Tryz.func276.trans (Qd some (by kernel_rfl))⟩
 f24:=⟨Tryz.f277.name,by decide,Tryz.func277.trans (Qd some (by kernel_rfl))⟩
 f25:=⟨Tryz.f278.name,by decide,Tryz.func278.trans (Qd some (by kernel_rfl))⟩
 f26:=⟨Tryz.f279.name,by decide,Tryz.func279.trans (Qd some (by kernel_rfl))⟩
 f27:=⟨Tryz.f280.name,by decide,Tryz.func280.trans (Qd some (by kernel_rfl))⟩
 f28:=Tryz.func259.trans (Qd some (by kernel_rfl))
 f29:=Tryz.func260.trans (Qd some (by kernel_rfl))
 f46:=⟨Tryz.f335.name,by decide,Tryz.func335.trans (Qd some (by kernel_rfl))⟩
 f47:=Tryz.func322.trans (Qd some (by kernel_rfl))
 f48:=Tryz.func323.trans (Qd some (by kernel_rfl))
 f49:=⟨Tryz.f336.name,by decide,Tryz.func336.trans (Qd some (by kernel_rfl))⟩
 f50:=⟨Tryz.f337.name,by decide,Tryz.func337.trans (Qd some (by kernel_rfl))⟩
 f57:=⟨Tryz.f359.name,by decide,Tryz.func359.trans (Qd some (by kernel_rfl))⟩
 t0:=Tryz.underlying0
 a0:=Tryz.isAgg0
 z0:=Tryz.sizeOf0
 v0:=Tryz.zeroValue0
 t3:=Tryz.underlying3
 a3:=Tryz.isAgg3
 z3:=Tryz.sizeOf3
 v3:=Tryz.zeroValue3
 t4:=Tryz.underlying4
 a4:=Tryz.isAgg4
 z4:=Tryz.sizeOf4
 v4:=Tryz.zeroValue4
 t5:=Tryz.underlying5
 a5:=Tryz.isAgg5
 z5:=Tryz.sizeOf5
 v5:=Tryz.zeroValue5
 t9:=Tryz.underlying9
 a9:=Tryz.isAgg9
 z9:=Tryz.sizeOf9
 v9:=Tryz.zeroValue9
 t22:=Tryz.underlying55
 a22:=Tryz.isAgg55
 z22:=Tryz.sizeOf55
 v22:=Tryz.zeroValue55
 t25:=Tryz.underlying189
 a25:=Tryz.isAgg189
 z25:=Tryz.sizeOf189
 v25:=Tryz.zeroValue189
 t39:=Tryz.underlying249
 a39:=Tryz.isAgg249
 z39:=Tryz.sizeOf249
 v39:=Tryz.zeroValue249
 t45:=Tryz.underlying304
 a45:=Tryz.isAgg304
 z45:=Tryz.sizeOf304
 v45:=Tryz.zeroValue304
 t46:=Tryz.underlying305
 a46:=Tryz.isAgg305
 z46:=Tryz.sizeOf305
 v46:=Tryz.zeroValue305
 t50:=Tryz.underlying214
 a50:=Tryz.isAgg214
 z50:=Tryz.sizeOf214
 v50:=Tryz.zeroValue214
 t53:=Tryz.underlying92
 a53:=Tryz.isAgg92
 z53:=Tryz.sizeOf92
 v53:=Tryz.zeroValue92
 t55:=Tryz.underlying48
 a55:=Tryz.isAgg48
 z55:=Tryz.sizeOf48
 v55:=Tryz.zeroValue48
 t66:=Tryz.underlying351
 a66:=Tryz.isAgg351
 z66:=Tryz.sizeOf351
 v66:=Tryz.zeroValue351
 t70:=Tryz.underlying355
 a70:=Tryz.isAgg355
 z70:=Tryz.sizeOf355
 v70:=Tryz.zeroValue355
 t76:=Tryz.underlying376
 a76:=Tryz.isAgg376
 z76:=Tryz.sizeOf376
 v76:=Tryz.zeroValue376
 t77:=Tryz.underlying377
 a77:=Tryz.isAgg377
 z77:=Tryz.sizeOf377
 v77:=Tryz.zeroValue377 }
end Go.Proofs
namespace Go.Proofs.YtfnopgdcaanaiaaGreatDoor
section
open Go.RowKit
section
variable {P:Program} {ops:Array Oper} {md:Region.Mode} {C:World->Prop}
def Ab(P:Program)(md:Region.Mode)(ops:Array Oper)(C:World->Prop)(n:Nat)(L:Array Bool->Act->Prop):Nat->Array Bool->Act->Prop
 | 0,listed,a=>L listed a
 | f+1,listed,a=>Region.ready md ops listed≠[]/\∀ i∈Region.ready md ops listed,i<n/\qOp P ops C i (Ab P md ops C n L f (listed.setIfInBounds i true)) a
theorem XD{n g:Nat}{L:Array Bool->Act->Prop}{Q:Exit->Act->World->Prop}(hL:∀ listed a w,C w->L listed a->wpAny P md ops Q g listed a w) :
 ∀ (f:Nat) (listed:Array Bool) (a:Act) (w:World),C w->Ab P md ops C n L f listed a->wpAny P md ops Q (f+g) listed a w:=by
 intro f
 induction f with
 | zero=>intro listed a w hw h;rw[Nat.zero_add];exact hL _ _ _ hw h
 | succ f ih=>
  intro listed a w hw h;have e:f+1+g=(f+g)+1:=by omega
  rw[e];exact⟨λh0=>absurd h0 h.1,λi hi=>wpOp_of_qOp hw (λa' w' hw' h'=>ih _ a' w' hw' h') (h.2 i hi).2⟩
theorem XE{n i:Nat}{oi:Oper}{v:Value}{L:Array Bool->Act->Prop}(hi:ops[i]?=some oi)(wl:∀ (j:Nat) (o:Oper) cs b,ops[j]?=some o->o.op≠.select cs b)
 (hs:Region.sinkB md ops n=true) (hc:Region.chainB md ops n=true) (hn:n<ops.size) (hin:i<n) (lu:∀ listed a,L listed a->∀ j∈Region.ready md ops listed,n<=j) :
 ∀ (f:Nat) (listed:Array Bool) (a:Act),HeadInv md ops n listed->
   (∀ j oj,ops[j]?=some oj->j≠i->listed.getD j true=false->(∀ e∈oj.after,Region.binds md e=true->e.on≠i)->oi.apart ops oj=true)->
   i∈Region.ready md ops listed->YieldsIn P ops C oi v a->Ab P md ops C n L f (listed.setIfInBounds i true) (a.put oi.dst v)->Ab P md ops C n L (f+1) listed a:=by
 intro f
 induction f with
 | zero=>
  intro listed a inv _ hr hy H;have dY:=(mem_ready.1 hr).1;refine⟨λh=>(by rw[h] at hr;cases hr),λj hj=>?_⟩;have oZ:j<n:=Decidable.byContradiction λh=>tail_waits hs hc hn inv _ i rfl hin dY j (by omega) hj;refine⟨oZ,?_⟩;by_cases l5:j=i
  ·subst l5;exact hy.qOp hi H
  ·have:=lu _ _ H j (ready_mono hj l5);omega
 | succ f ih=>
  intro listed a inv N6 hr hy H;have dY:=(mem_ready.1 hr).1;refine⟨λh=>(by rw[h] at hr;cases hr),λj hj=>?_⟩;have oZ:j<n:=Decidable.byContradiction λh=>tail_waits hs hc hn inv _ i rfl hin dY j (by omega) hj;refine⟨oZ,?_⟩;by_cases l5:j=i
  ·subst l5;exact hy.qOp hi H
  ·have h1:=(H.2 j (ready_mono hj l5)).2;obtain⟨Oj,oj,I4,aA⟩:=mem_ready.1 hj;have Yn:∀ e∈oj.after,Region.binds md e=true->e.on≠i:=λe he hb heq=>by
    have h2:=aA e he hb;rw[heq,getD_both dY] at h2;cases h2
   have h2:=qOp_put I4 (N6 j oj I4 l5 Oj Yn) (λcs b=>wl i oi cs b hi) (λcs b=>wl j oj cs b I4) hy h1;refine qOp_mono (λa' h3=>ih (listed.setIfInBounds j true) a' (inv.set hj oZ) (λk ok hk X8 Ya gl=>?_) (ready_mono hr (Ne.symm l5)) h3.1 ?_) h2
   ·refine N6 k ok hk X8 ?_ gl;by_cases tz:j=k
    ·subst tz;exact Oj
    ·rwa [getD_set_ne true tz] at Ya
   ·rw[Array.setIfInBounds_comm _ _ l5];exact h3.2
theorem N0{n g:Nat}{Lq:Act->Prop}(wl:Region.noSelect ops=true)(hs:Region.sinkB md ops n=true)(hc:Region.chainB md ops n=true)(hn:n<ops.size) :
 ∀ (l:List Oper) (k:Nat) (listed:Array Bool) (a:Act),(∀ j,j<l.length->l[j]?=ops[k+j]?)->k+l.length=n->HeadInv md ops n listed->Region.lexHead md ops g l.length k listed=true->wpQuiet P ops C Lq l a->
 Ab P md ops C n (λlisted' a'=>Region.seqB md ops g n listed'=true/\Lq a') l.length listed a
 | [],k,listed,a,_,hk,_,hB,h=>by
   have hk:k=n:=hk;subst hk;exact⟨by simpa [Region.lexHead] using hB,h⟩
 | o::l,k,listed,a,hl,hk,inv,hB,h=>by
   have h0:ops[k]?=some o:=by simpa using (hl 0 (by simp)).symm
   simp only[List.length_cons,Region.lexHead,Bool.and_eq_true] at hB;simp only[List.length_cons] at hk;have hr:k∈Region.ready md ops listed:=by simpa using hB.1.1
   obtain⟨v,hy,hK⟩:=yieldsIn_of_qOp (K:=wpQuiet P ops C Lq l) h0 (by unfold qOp;simp only[h0];exact h);exact XE h0 (Region.noSelect_spec wl) hs hc hn (by omega) (λ_ _ hL=>seqB_ready hL.1) l.length listed a inv (Region.free_spec h0 hB.1.2) hr hy
    (N0 wl hs hc hn l (k+1) _ _ (λj hj=>by have:=hl (j+1) (by simp;omega);simpa [Nat.add_assoc,Nat.add_comm 1 j] using this) (by omega) (inv.set hr (by omega)) hB.2 hK)
theorem aLK{id:Nat}{Q:Exit->Act->World->Prop}{a:Act}{w:World}{l:List Oper}(n:Nat)(hm:P.follows .mixedOrders=true)(hB:Region.lexTailB .any l.toArray n=true)(hC:C w.drew)
 (h:wpQuiet P l.toArray C (λa'=>∀ w',C w'->wpList P l.toArray Q (l.drop n) a' w') (l.take n) a):(Code.region id l.toArray true).wp P Q a w:=by
 simp only[Region.lexTailB,Bool.and_eq_true,Qa] at hB;obtain⟨⟨⟨⟨wl,hn⟩,hs⟩,hc⟩,Yf⟩:=hB;have hn':n<l.length:=by simpa using hn
 have mZ:(l.take n).length=n:=by simp;omega
 have tm:(l.drop n).length=l.toArray.size - n:=by simp
 have inv0:HeadInv .any l.toArray n (Array.replicate l.toArray.size false):=
  ⟨by simp,λj oj _ hl=>(by rw[getD_replicate_false] at hl;cases hl),λt _ ht=>getD_in (by simpa using ht) (getD_replicate_false _ _)⟩
 have H:=N0 (md:=.any) (g:=l.toArray.size - n) wl hs hc hn (l.take n) 0 _ a (λj hj=>by
  have hj':j<n:=by rw[mZ] at hj;exact hj
  simp[hj']) (by simpa using mZ) inv0 (by rw[mZ];exact Yf) h
 refine wp_region_any hm ?_;have H2:=XD (Q:=Q) (g:=l.toArray.size - n) (λlisted a' w' hw' hL=>by
  have:=wpAny_of_seq (md:=.any) (Q':=Q) (l.drop n) n listed a' w' (λj=>by simp[List.getElem?_drop]) (by rw[tm];exact hL.1) (hL.2 w' hw')
  rwa [tm] at this) _ _ _ w.drew hC H
 rw[mZ,show n+(l.toArray.size - n)=l.toArray.size by omega] at H2;exact H2
theorem RU{id:Nat}{Q:Exit->Act->World->Prop}{a:Act}{w:World}{l:List Oper}(n:Nat)(hm:P.follows .mixedOrders=true)(hB:Region.lexTailB .any l.toArray n=true)
 (h:wpQuiet P l.toArray (λw'=>∃ g:bK w,w'=g.w) (λa'=>∀ w',(∃ g:bK w,w'=g.w)->wpList P l.toArray Q (l.drop n) a' w') (l.take n) a):(Code.region id l.toArray true).wp P Q a w:=
 aLK n hm hB ⟨⟨_,(vQ w.heap.size w).drew⟩,rfl⟩ h
end
section
variable {P:Program} {ops:Array Oper} {md:Region.Mode} {C:World->Prop} {Q:Exit->Act->World->Prop}
theorem EX(a:Act)(d:Nat)(v:Value)(h:d<a.tmps.size):(a.put (some d) v).eval (.tmp d)=v:=by
 simp[Act.put,Act.eval,h]
theorem wN(a:Act)(d j:Nat)(v:Value)(h:d≠j):(a.put (some d) v).eval (.tmp j)=a.eval (.tmp j):=by
 simp[Act.put,Act.eval,h,Array.getD_eq_getD_getElem?]
structure ko(ops:Array Oper)(D:List Nat)(dst:Nat->Nat)(val:Nat->Value)(base:List (Nat×Value))(m:Nat)(ds:List Deferred)(f:Nat)(listed:Array Bool)(a:Act):Prop where
 defs:a.defers=ds
 size:listed.size=ops.size
 left:listed.toList.count false=f
 not:∀ i,i<ops.size->i∉D->listed.getD i true=false
 val:∀ i∈D,listed.getD i false=true->a.eval (.tmp (dst i))=val i
 base:∀ q∈base,a.eval (.tmp q.1)=q.2
 tmps:a.tmps.size=m
theorem ko.step{ds:List Deferred}{D:List Nat}{dst:Nat->Nat}{val:Nat->Value}{base:List (Nat×Value)}{m f:Nat}{listed:Array Bool}{a:Act}{i:Nat}{o:Oper}(hg:ko ops D dst val base m ds (f+1) listed a)(hi:i∈D)(hr:listed.getD i true=false)(ho:ops[i]?=some o)(hd:o.dst=some (dst i))(aa:dst i<m)
 (l4:∀ j∈D,j≠i->dst i≠dst j) (hb:∀ q∈base,dst i≠q.1) (hy:YieldsIn P ops C o (val i) a):qOp P ops C i (ko ops D dst val base m ds f (listed.setIfInBounds i true)) a:=by
 refine hy.qOp ho ?_;rw[hd];have XX:i<ops.size:=(eQ.1 ho).1;have dE:i<listed.size:=by rw[hg.size];exact XX
 have ab:listed[i]=false:=by simpa [Array.getD,dE] using hr
 refine⟨by simp[Act.put,hg.defs],by simp[hg.size],?_,?_,?_,?_,?_⟩
 ·have h1:=hg.left;rw[Array.toList_setIfInBounds,List.count_set (by simpa using dE)];simp[ab,h1]
 ·intro j hj pY;have hne:i≠j:=λe=>pY (e ▸ hi)
  have:=hg.not j hj pY
  simpa [Array.getD,hg.size,hj,Array.getElem_setIfInBounds,hne] using this
 ·intro j hj hl;by_cases hne:i=j
  ·subst hne;exact EX a _ _ (by rw[hg.tmps];exact aa)
  ·rw[wN _ _ _ _ (l4 j hj (λe=>hne e.symm))];refine hg.val j hj ?_;by_cases mP:j<listed.size
   ·simpa [Array.getD,mP,Array.getElem_setIfInBounds,hne] using hl
   ·simp[Array.getD,mP] at hl
 ·intro q hq;rw[wN _ _ _ _ (hb q hq)];exact hg.base q hq
 ·simp[Act.put,hg.tmps]
theorem ko.none{ds:List Deferred}{D:List Nat}{dst:Nat->Nat}{val:Nat->Value}{base:List (Nat×Value)}{m:Nat}{listed:Array Bool}{a:Act}{p:Nat}(hp:p<ops.size)(mW:p∉D):¬ ko ops D dst val base m ds 0 listed a:=λhg=>by
 have h1:=hg.not p hp mW;have dE:p<listed.size:=by rw[hg.size];exact hp
 have ab:listed[p]=false:=by simpa [Array.getD,dE] using h1
 have h2:=hg.left;rw[List.count_eq_zero] at h2;exact h2 (by rw[<-ab];simp)
theorem ko.start{D:List Nat}{dst:Nat->Nat}{val:Nat->Value}{base:List (Nat×Value)}{m:Nat}{a:Act}(hb:∀ q∈base,a.eval (.tmp q.1)=q.2)(hm:a.tmps.size=m):ko ops D dst val base m a.defers ops.size (Array.replicate ops.size false) a:=
 ⟨rfl,by simp,by simp,λi hi _=>by simp[Array.getD,hi],λi _ h=>by simp[Array.getD] at h,hb,hm⟩
theorem QF{listed:Array Bool}(hw:∀ (i:Nat) (o:Oper),ops[i]?=some o->∀ e∈o.after,e.on<i)(ap:listed.size=ops.size):∀ p,p<ops.size->listed.getD p true=false->Region.ready md ops listed≠[]:=by
 intro p
 induction p using Nat.strongRecOn with
 | _ p ih=>
  intro hp hl;by_cases aA:∀ e∈(ops[p]).after,Region.binds md e=true->listed.getD e.on false=true
  ·intro h0
   have:p∈Region.ready md ops listed:=mem_ready.2 ⟨hl,ops[p],pQ hp,aA⟩
   rw[h0] at this
   cases this
  ·simp only[Classical.not_forall] at aA;obtain⟨e,he,hb,hne⟩:=aA;have aa:=hw p _ (pQ hp) e he;refine ih e.on aa (by omega) ?_;have h1:e.on<listed.size:=by omega
   simpa [Array.getD,h1] using hne
def Kf(ops:Array Oper):Bool:=(List.range ops.size).all λi=>match ops[i]? with
 | some o=>o.after.all λe=>decide (e.on<i)
 | none=>true
def RH(ops:Array Oper)(D:List Nat)(p:Nat):Bool:=(List.range ops.size).all λi=>D.contains i||i == p||match ops[i]? with
 | some o=>o.after.any λe=>Region.binds .any e&&!D.contains e.on&&decide (e.on<ops.size)
 | none=>true
theorem iJ(h:Kf ops=true):∀ (i:Nat) (o:Oper),ops[i]?=some o->∀ e∈o.after,e.on<i:=by
 intro i o ho e he;unfold Kf at h;rw[List.all_eq_true] at h;have h1:=h i (by rw[List.mem_range];exact (eQ.1 ho).1);rw[ho] at h1;simp only[Array.all_eq_true_iff_forall_mem,Qa] at h1;exact h1 e he
theorem ij{D:List Nat}{p:Nat}(h:RH ops D p=true):∀ (i:Nat) (o:Oper),ops[i]?=some o->i∉D->i≠p->∃ e∈o.after,Region.binds .any e=true/\e.on∉D/\e.on<ops.size:=by
 intro i o ho hD hp;unfold RH at h;rw[List.all_eq_true] at h;have h1:=h i (by rw[List.mem_range];exact (eQ.1 ho).1);rw[ho] at h1;simp only[Bool.or_eq_true,List.contains_iff_mem,hD,beq_iff_eq,hp,false_or] at h1;rw[Array.any_eq_true'] at h1;obtain⟨e,he,h2⟩:=h1;simp only[Bool.and_eq_true,Bool.not_eq_true',Qa] at h2;have h3:e.on∉D:=λhm=>by
  have:=h2.1.2
  rw[List.contains_iff_mem.2 hm] at this
  cases this
 exact⟨e,he,h2.1.1,h3,h2.2⟩
end
section
variable {P:Program} {ops:Array Oper} {Q:Exit->Act->World->Prop}
structure Held(ops:Array Oper)(D A:List Nat)(dst:Nat->Nat)(val:Nat->Value)(base:List (Nat×Value))(m:Nat)(ds:List Deferred)(f:Nat)(listed:Array Bool)(a:Act):Prop where
 good:ko ops D dst val base m ds f listed a
 done:∀ i∈A,listed.getD i false=true
 clo:∀ j o,ops[j]?=some o->listed.getD j false=true->∀ e∈o.after,Region.binds .any e=true->listed.getD e.on false=true
theorem EM{listed:Array Bool}{i j:Nat}(h:(listed.setIfInBounds i true).getD j false=true):j=i\/listed.getD j false=true:=by
 by_cases dD:i=j
 ·exact .inl dD.symm
 ·rw[getD_set_ne false dD] at h;exact .inr h
theorem nk{listed:Array Bool}{i j:Nat}(h:listed.getD j false=true):(listed.setIfInBounds i true).getD j false=true:=by
 by_cases dD:i=j
 ·subst dD;have hl:i<listed.size:=by
   by_cases hl:i<listed.size
   ·exact hl
   ·simp[Array.getD,hl] at h
  simp[Array.getD,hl]
 ·rw[getD_set_ne false dD];exact h
theorem DA{listed:Array Bool}{i:Nat}(hr:i∈Region.ready .any ops listed)(h:∀ j o,ops[j]?=some o->listed.getD j false=true->∀ e∈o.after,Region.binds .any e=true->listed.getD e.on false=true) :
 ∀ j o,ops[j]?=some o->(listed.setIfInBounds i true).getD j false=true->∀ e∈o.after,Region.binds .any e=true->(listed.setIfInBounds i true).getD e.on false=true:=λj o ho hj e he hb=>by
 refine nk ?_;rcases EM hj with rfl | hj
 ·obtain⟨_,o',ho',aA⟩:=mem_ready.1 hr;rw[ho] at ho';cases ho';exact aA e he hb
 ·exact h j o ho hj e he hb
theorem iK{w:World}{D A:List Nat}{dst:Nat->Nat}{val:Nat->Value}{base:List (Nat×Value)}{m p:Nat}{ds:List Deferred}
 (hw:∀ (i:Nat) (o:Oper),ops[i]?=some o->∀ e∈o.after,e.on<i) (hp:p<ops.size) (mW:p∉D)
 (Ce:∀ (i:Nat) (o:Oper),ops[i]?=some o->i∉D->i≠p->∃ e∈o.after,Region.binds .any e=true/\e.on∉D/\e.on<ops.size)
 (vD:∀ i∈D,i∉A->∃ o:Oper,ops[i]?=some o/\o.dst=some (dst i)) (aa:∀ i∈D,dst i<m) (l4:∀ i∈D,∀ j∈D,j≠i->dst i≠dst j) (ix:∀ i∈D,∀ q∈base,dst i≠q.1)
 (hy:∀ i∈D,i∉A->∀ o:Oper,ops[i]?=some o->∀ a:Act,(∀ q∈base,a.eval (.tmp q.1)=q.2)->(∀ e∈o.after,Region.binds .any e=true->e.on∈D->a.eval (.tmp (dst e.on))=val e.on)->YieldsIn P ops (λw'=>w'=w) o (val i) a)
 (vr:∀ f listed a,Held ops D A dst val base m ds (f+1) listed a->p∈Region.ready .any ops listed->wpOp P ops Q p (wpAny P .any ops Q f (listed.setIfInBounds p true)) a w) :
 ∀ f listed a,Held ops D A dst val base m ds f listed a->wpAny P .any ops Q f listed a w:=by
 intro f
 induction f with
 | zero=>intro listed a h;exact absurd h.good (ko.none hp mW)
 | succ f ih=>
  intro listed a h;have hg:=h.good;refine⟨λh0=>absurd h0 (QF hw hg.size p hp (hg.not p hp mW)),λi hi=>?_⟩;obtain⟨hr,o,ho,aA⟩:=mem_ready.1 hi;by_cases hip:i=p
  ·subst hip;exact vr f listed a h hi
  ·have fF:i∈D:=Decidable.byContradiction λfF=>by
    obtain⟨e,he,oY,gF,hes⟩:=Ce i o ho fF hip;have h1:=aA e he oY;have h2:=hg.not e.on hes gF;have h3:e.on<listed.size:=by rw[hg.size];exact hes
    simp[Array.getD,h3] at h1 h2;rw[h1] at h2
    cases h2
   have aH:i∉A:=λhA=>by
    have h1:=h.done i hA;have h3:i<listed.size:=by rw[hg.size];exact (eQ.1 ho).1
    simp[Array.getD,h3] at h1 hr;rw[h1] at hr;cases hr
   obtain⟨o',ho',hd⟩:=vD i fF aH;rw[ho] at ho';cases ho';have Bn:∀ e∈o.after,Region.binds .any e=true->e.on∈D->a.eval (.tmp (dst e.on))=val e.on:=λe he oY hD=>hg.val _ hD (aA e he oY);have hq:=ko.step (P:=P) hg fF hr ho hd (aa i fF) (l4 i fF) (ix i fF) (hy i fF aH o ho a hg.base Bn);exact wpOp_of_qOp (C:=λw'=>w'=w) rfl (λa' w' hw' h'=>by subst hw';exact ih _ a' ⟨h',λj hj=>nk (h.done j hj),DA hi h.clo⟩) hq
theorem Held.act{D A D':List Nat}{dst:Nat->Nat}{val val':Nat->Value}{base:List (Nat×Value)}{m p f:Nat}{ds:List Deferred}{listed:Array Bool}{a:Act}{v:Value}(h:Held ops D A dst val base m ds (f+1) listed a)(hp:p∈Region.ready .any ops listed)
 (mW:p∉D) (hD:∀ i,i∉D'->i∉D/\i≠p) (hval:∀ i∈D,val' i=val i) (Y6:val' p=v) (aa:dst p<m) (l4:∀ j∈D,dst p≠dst j) (hb:∀ q∈base,dst p≠q.1) (fY:p<ops.size) :
 Held ops D' (p::A) dst val' base m ds f (listed.setIfInBounds p true) (a.put (some (dst p)) v):=by
 have hg:=h.good;have dY:=(mem_ready.1 hp).1;have dE:p<listed.size:=by rw[hg.size];exact fY
 have ab:listed[p]=false:=by simpa [Array.getD,dE] using dY
 refine⟨⟨by simp[Act.put,hg.defs],by simp[hg.size],?_,?_,?_,?_,by simp[Act.put,hg.tmps]⟩,?_,DA hp h.clo⟩
 ·have h1:=hg.left;rw[Array.toList_setIfInBounds,List.count_set (by simpa using dE)];simp[ab,h1]
 ·intro j hj pY;obtain⟨h1,h2⟩:=hD j pY
  have:=hg.not j hj h1
  rw[getD_set_ne true (λe=>h2 e.symm)];exact this
 ·intro j hj hl;rcases EM hl with rfl | hl
  ·rw[Y6];exact EX a _ _ (by rw[hg.tmps];exact aa)
  ·have pY:j∈D:=Decidable.byContradiction λpY=>by
    by_cases BE:j<ops.size
    ·have h1:=hg.not j BE pY;have h3:j<listed.size:=by rw[hg.size];exact BE
     simp[Array.getD,h3] at h1 hl;rw[h1] at hl;cases hl
    ·have h3:¬ j<listed.size:=by rw[hg.size];exact BE
     simp[Array.getD,h3] at hl
   rw[wN _ _ _ _ (l4 j pY),hval j pY];exact hg.val j pY hl
 ·intro q hq;rw[wN _ _ _ _ (hb q hq)];exact hg.base q hq
 ·intro i hi;rcases List.mem_cons.1 hi with rfl | hi
  ·simp[Array.getD,dE]
  ·exact nk (h.done i hi)
def EJ(ops:Array Oper)(p:Nat):Bool:=(List.range ops.size).all λi=>i == p||(List.range ops.size).any λj=>decide (i<j)&&match ops[j]? with
 | some o=>o.after.any λe=>Region.binds .any e&&e.on == i
 | none=>false
theorem Held.all{D A:List Nat}{dst:Nat->Nat}{val:Nat->Value}{base:List (Nat×Value)}{m p f:Nat}{ds:List Deferred}{listed:Array Bool}{a:Act}(h:Held ops D A dst val base m ds (f+1) listed a)(hp:p∈Region.ready .any ops listed)(hl:EJ ops p=true) :
 f=0/\∀ i,i<ops.size->i≠p->listed.getD i false=true:=by
 unfold EJ at hl;rw[List.all_eq_true] at hl;have key:∀ k i,ops.size - i=k->i<ops.size->i≠p->listed.getD i false=true:=by
  intro k
  induction k using Nat.strongRecOn with
  | ind k ih=>
   intro i hk his hip;have h1:=hl i (by rw[List.mem_range];exact his);simp only[Bool.or_eq_true,beq_iff_eq,hip,false_or,List.any_eq_true,List.mem_range,Bool.and_eq_true,Qa] at h1;obtain⟨j,hj,dD,h2⟩:=h1;rw[pQ hj] at h2;simp only[Array.any_eq_true',Bool.and_eq_true,beq_iff_eq] at h2;obtain⟨e,he,hb,rfl⟩:=h2;by_cases vN:j=p
   ·subst vN;obtain⟨_,o,ho,aA⟩:=mem_ready.1 hp;rw[pQ hj] at ho
    cases ho
    exact aA e he hb
   ·exact h.clo j _ (pQ hj) (ih (ops.size - j) (by omega) j rfl hj vN) e he hb
 have fY:p<ops.size:=by
  obtain⟨_,o,ho,_⟩:=mem_ready.1 hp;exact (eQ.1 ho).1
 refine⟨?_,λi hi hne=>key _ i rfl hi hne⟩;have ap:=h.good.size;have aWZ:=h.good.left;have hc:listed.toList.count false<=1:=by
  have iD:p<listed.toList.length:=by simp[ap,fY]
  have aA:∀ j (hj:j<listed.toList.length),j≠p->listed.toList[j]=true:=λj hj hne=>by
   have hj':j<listed.size:=by simpa using hj
   have:=key _ j rfl (by rw[<-ap];exact hj') hne
   simpa [Array.getD,hj'] using this
  have e:listed.toList=listed.toList.take p++listed.toList[p]::listed.toList.drop (p+1):=by
   rw[<-sQ iD,List.take_append_drop]
  rw[e,List.count_append,List.count_cons];have c1:(listed.toList.take p).count false=0:=List.count_eq_zero.2 λhm=>by
   obtain⟨j,hj,rC⟩:=nQ.1 hm;rw[List.getElem_take] at rC;rw[List.length_take] at hj;rw[aA j (by omega) (by omega)] at rC
   cases rC
  have c2:(listed.toList.drop (p+1)).count false=0:=List.count_eq_zero.2 λhm=>by
   obtain⟨j,hj,rC⟩:=nQ.1 hm;rw[List.getElem_drop] at rC;rw[List.length_drop] at hj;rw[aA _ (by omega) (by omega)] at rC
   cases rC
  rw[c1,c2];split <;> omega
 omega
theorem Held.start{D:List Nat}{dst:Nat->Nat}{val:Nat->Value}{base:List (Nat×Value)}{m:Nat}{a:Act}(hb:∀ q∈base,a.eval (.tmp q.1)=q.2)(hm:a.tmps.size=m):Held ops D [] dst val base m a.defers ops.size (Array.replicate ops.size false) a:=
 ⟨ko.start hb hm,(λ_ h=>by cases h),λj o ho hj=>by simp[Array.getD] at hj⟩
end
end
section
open Go.RowKit
theorem wR{md:Region.Mode}{ops:Array Oper}{listed:Array Bool}(h:∀ i,i<ops.size->listed.getD i false=true)(hs:listed.size=ops.size):Region.ready md ops listed = []:=by
 apply List.eq_nil_iff_forall_not_mem.2;intro i hi;obtain⟨h1,o,ho,_⟩:=mem_ready.1 hi;have aa:=(eQ.1 ho).1;have h2:=h i aa;have h3:i<listed.size:=by rw[hs];exact aa
 simp[Array.getD,h3] at h1 h2;rw[h1] at h2;cases h2
def lD(a:Act):List (Nat×Value)->Act
 | []=>a
 | q::l=>lD (a.put (some q.1) q.2) l
theorem UD{a b:Act}(hs:a.tmps.size=b.tmps.size)(hd:a.defers=b.defers)(h:∀ j,a.eval (.tmp j)=b.eval (.tmp j)):a=b:=by
 obtain⟨t,d⟩:=a;obtain⟨t',d'⟩:=b;simp only at hs hd;subst hd;congr 1;apply Array.ext hs;intro i h1 h2
 have:=h i
 simpa [Act.eval,Array.getD_eq_getD_getElem?,h1,h2] using this
theorem Qw{a a0:Act}(hs:a.tmps.size=a0.tmps.size)(hd:a.defers=a0.defers):∀ (l:List (Nat×Value)),(∀ q∈l,q.1<a0.tmps.size)->(∀ q∈l,a.eval (.tmp q.1)=q.2)->(∀ j,(∀ q∈l,q.1≠j)->a.eval (.tmp j)=a0.eval (.tmp j))->a=lD a0 l:=by
 intro l
 induction l generalizing a0 with
 | nil=>intro _ _ h;exact UD hs hd (λj=>h j (λq hq=>by cases hq))
 | cons q l ih=>
  intro aa h1 h2;rw[lD];refine ih (by simpa [Act.put] using hs) (by simpa [Act.put] using hd) (λp hp=>by have:=aa p (mQ _ hp);simpa [Act.put] using this) (λp hp=>h1 p (mQ _ hp)) (λj hj=>?_);by_cases hq:q.1=j
  ·subst hq;rw[EX _ _ _ (aa q (by simp))];exact h1 q (by simp)
  ·rw[wN _ _ _ _ hq];refine h2 j (λp hp=>?_);rcases List.mem_cons.1 hp with rfl | hp
   ·exact hq
   ·exact hj p hp
def dS(a0:Act)(m:Nat)(ds:List Nat):List (Nat×Value):=((List.range m).filter λj=>!ds.contains j).map λj=>(j,a0.eval (.tmp j))
theorem wT{a0:Act}{m:Nat}{ds:List Nat} : ∀ q∈dS a0 m ds,a0.eval (.tmp q.1)=q.2:=λq hq=>by
 obtain⟨j,_,rfl⟩:=List.mem_map.1 hq;rfl
theorem cZ{a0:Act}{m:Nat}{ds:List Nat}{d:Nat}(hd:d∈ds):∀ q∈dS a0 m ds,d≠q.1:=λq hq e=>by
 obtain⟨j,hj,rfl⟩:=List.mem_map.1 hq
 have:=(List.mem_filter.1 hj).2
 simp only at e;subst e;simp[hd] at this
theorem bG{a0 a:Act}{m:Nat}{ds:List Nat}(h:∀ q∈dS a0 m ds,a.eval (.tmp q.1)=q.2){j:Nat}(hj:j<m)(hd:j∉ds):a.eval (.tmp j)=a0.eval (.tmp j):=
 h (j,a0.eval (.tmp j)) (List.mem_map.2 ⟨j,List.mem_filter.2 ⟨List.mem_range.2 hj,by simpa using hd⟩,rfl⟩)
theorem aLJ{P:Program}{c:Code}{Q:Exit->Act->World->Prop}{a:Act}{w:World}(h:∀ a0,a0=a->c.wp P Q a0 w):c.wp P Q a w:=h a rfl
variable {ops:Array Oper}
theorem Held.frame{D A:List Nat}{dst:Nat->Nat}{val:Nat->Value}{m f:Nat}{listed:Array Bool}{a a0:Act}(h:Held ops D A dst val (dS a0 m (D.map dst)) m a0.defers f listed a)(hm:a0.tmps.size=m)(aA:∀ i∈D,listed.getD i false=true)(aa:∀ i∈D,dst i<m) :
 a=lD a0 (D.map λi=>(dst i,val i)):=by
 refine Qw (by rw[h.good.tmps,hm]) h.good.defs _ (λq hq=>?_) (λq hq=>?_) (λj hj=>?_)
 ·obtain⟨i,hi,rfl⟩:=List.mem_map.1 hq;rw[hm];exact aa i hi
 ·obtain⟨i,hi,rfl⟩:=List.mem_map.1 hq;exact h.good.val i hi (aA i hi)
 ·by_cases BD:j<m
  ·refine bG h.good.base BD (λhd=>?_);obtain⟨i,hi,rfl⟩:=List.mem_map.1 hd;exact hj _ (List.mem_map.2 ⟨i,hi,rfl⟩) rfl
  ·have h1:=h.good.tmps;simp[Act.eval,Array.getD_eq_getD_getElem?,h1,hm,BD]
end
section
section
variable {P:Program} {ops:Array Oper} {Q:Exit->Act->World->Prop} {n l:Nat}
theorem atY{row:String}{args:Array Value}{w:World}{R:Value->World->Prop}(h:Rows P row args w R):RowsIn (Fence.wide.inRound l) n P row args w R:=by
 intro c cs _;obtain⟨v,w',r,s⟩:=h c cs;exact⟨v,w',r,stepsIn_wide.2 s⟩
theorem RP{o:Oper}{a:Act}{K:Act->World->Prop}{w:World}(hd:∀ c,o.op≠.defer c)(rm:¬ LetsOut Q)(h:o.wp P a w K Q\/(o.asks P a w/\LetsOut Q)):o.wpIn (Fence.wide.inRound l) n P a w K Q:=by
 have h:=h.resolve_right (λe=>rm e.2);refine⟨λf _=>trivial,?_⟩;rw[Oper.semAt_eq _ _ _ hd];unfold Oper.wp at h;generalize (execOp a.eval o).run P w=r at *
 cases r with
 | ok x w'=>
  cases x <;> simp only[Oper.upon,Oper.uponIn] at h |- <;> first | exact h | exact h.elim | skip
  ·exact⟨λe=>by simp[Fence.wide] at e,CallsIn.inRound l (callsIn_wide.2 h)⟩
  ·exact⟨λe=>by simp[Fence.wide] at e,atY h⟩
 | halt x w'=>cases x <;> simp only[Oper.upon,Oper.uponIn] at h |- <;> first | exact h | exact h.elim
theorem aJX{lst:List Oper}(hd:∀ o∈lst,∀ c,o.op≠.defer c)(rm:¬ LetsOut Q):∀ {a:Act} {w:World},wpList P ops Q lst a w->wpListIn (Fence.wide.inRound l) n P ops Q lst a w:=by
 induction lst with
 | nil=>exact λh=>h
 | cons o rest ih=>
  intro a w h;have ih':∀ {a:Act} {w:World},wpList P ops Q rest a w->wpListIn (Fence.wide.inRound l) n P ops Q rest a w:=ih (λo ho=>hd o (mQ _ ho));unfold wpList at h;unfold wpListIn;split at h
  ·rename_i hw;rw[Qb hw];refine Oper.wpIn_mono (λa w h=>ih' h) (RP (hd o (by simp)) rm h)
  ·rename_i hw;rw[Qc hw];exact⟨λ_ _=>trivial,ih' h⟩
theorem aIX{md:Region.Mode}(hd:∀ (i:Nat) (o:Oper),ops[i]?=some o->∀ c,o.op≠.defer c)(rm:¬ LetsOut Q):∀ (f:Nat) {listed:Array Bool} {a:Act} {w:World},wpAny P md ops Q f listed a w->wpAnyIn (Fence.wide.inRound l) n P md ops Q f listed a w:=by
 intro f
 induction f with
 | zero=>exact λh=>h
 | succ f ih=>
  intro listed a w h;refine⟨h.1,λi hi=>?_⟩;have h2:=h.2 i hi;unfold wpOp at h2;unfold wpOpIn
  cases ho:ops[i]? with
  | none=>rw[ho] at h2;exact ih h2
  | some o=>
   rw[ho] at h2;dsimp only at h2 |-;split at h2
   ·rename_i hw;rw[Qb hw];refine Oper.wpIn_mono (λa w h=>ih h) (RP (hd i o ho) rm h2)
   ·rename_i hw;rw[Qc hw];exact⟨λ_ _=>trivial,ih h2⟩
end
def JK(ops:Array Oper):Bool:=ops.all λo=>match o.op with | .defer _=>false | _=>true
theorem aeK{ops:Array Oper}(h:JK ops=true):∀ (i:Nat) (o:Oper),ops[i]?=some o->∀ c,o.op≠.defer c:=λi o ho c e=>by
 unfold JK at h;rw[Array.all_eq_true] at h;obtain⟨hi,hg⟩:=eQ.1 ho
 have:=h i hi
 rw[hg,e] at this
 cases this
section
variable {P:Program} {ops:Array Oper} {Q:Exit->Act->World->Prop} {n l id:Nat} {a:Act} {w:World}
theorem Fq(hd:JK ops=true)(hm:P.follows .mixedOrders=true)(rm:¬ LetsOut Q)(h:wpAny P .any ops Q ops.size (Array.replicate ops.size false) a w.drew):(Code.region id ops true).wpIn (Fence.wide.inRound l) n P Q a w:=
 wpIn_region_any hm (aIX (aeK hd) rm _ h)
end
theorem zi{F:Fence}{n:Nat}{P:Program}{c:Code}{Q:Exit->Act->World->Prop}{a:Act}{w:World}(h:∀ a0,a0=a->c.wpIn F n P Q a0 w):c.wpIn F n P Q a w:=h a rfl
section
variable {P:Program} {ops:Array Oper} {Q:Exit->Act->World->Prop} {n l:Nat}
theorem aJJ{F:Fence}{o:Oper}{a:Act}{K K':Act->World->Prop}{w:World}(h:o.wpIn F n P a w K (Exit.then K' Q)):o.wpIn F n P a w K Q:=by
 refine⟨h.1,?_⟩;have h:=h.2;generalize (o.semAt F.round a.eval).run P w=r at *
 cases r with
 | ok x w'=>
  cases x <;> simp only[Oper.uponIn] at h |- <;> first | exact h | (refine⟨h.1,h.2.mono λe w'' he=>?_⟩;cases e <;> exact he)
 | halt x w'=>cases x <;> simp only[Oper.uponIn] at h |- <;> first | exact h | exact h.elim
theorem RQ{o:Oper}{rest:List Oper}{a:Act}{w:World}(hg:o.guard=none)(hd:∀ c,o.op≠.defer c)(rm:¬ LetsOut Q)
 (h:wpList P ops (Exit.then (wpListIn (Fence.wide.inRound l) n P ops Q rest) Q) [o] a w):wpListIn (Fence.wide.inRound l) n P ops Q (o::rest) a w:=by
 have hw:Region.wanted o (yielded ops a.tmps)=true:=by simp[Region.wanted,hg]
 have h1:=aJX (Q:=Exit.then (wpListIn (Fence.wide.inRound l) n P ops Q rest) Q) (l:=l) (n:=n) (lst:=[o]) (λx hx=>by rw[List.mem_singleton] at hx;subst hx;exact hd) (λe=>rm e) h;unfold wpListIn at h1 |-;rw[Qb hw] at h1 |-;exact aJJ h1
theorem RR{K:Act->World->Prop}{a:Act}{w:World}(h:K a w):wpList P ops (Exit.then K Q) [] a w:=h
end
end
section
open Go.RowKit
section
variable {P:Program} {ops:Array Oper} {Q:Exit->Act->World->Prop}
theorem QG{listed:Array Bool}(hw:∀ (i:Nat) (o:Oper),ops[i]?=some o->∀ e∈o.after,Region.binds .any e=true->e.on<i)(ap:listed.size=ops.size):∀ p,p<ops.size->listed.getD p true=false->Region.ready .any ops listed≠[]:=by
 intro p
 induction p using Nat.strongRecOn with
 | _ p ih=>
  intro hp hl;by_cases aA:∀ e∈(ops[p]).after,Region.binds .any e=true->listed.getD e.on false=true
  ·intro h0
   have:p∈Region.ready .any ops listed:=mem_ready.2 ⟨hl,ops[p],pQ hp,aA⟩
   rw[h0] at this
   cases this
  ·simp only[Classical.not_forall] at aA;obtain⟨e,he,hb,hne⟩:=aA;have aa:=hw p _ (pQ hp) e he hb;refine ih e.on aa (by omega) ?_;have h1:e.on<listed.size:=by omega
   simpa [Array.getD,h1] using hne
def RJ(ops:Array Oper):Bool:=(List.range ops.size).all λi=>match ops[i]? with
 | some o=>o.after.all λe=>!Region.binds .any e||decide (e.on<i)
 | none=>true
theorem Kg(h:RJ ops=true):∀ (i:Nat) (o:Oper),ops[i]?=some o->∀ e∈o.after,Region.binds .any e=true->e.on<i:=by
 intro i o ho e he hb;unfold RJ at h;rw[List.all_eq_true] at h;have h1:=h i (by rw[List.mem_range];exact (eQ.1 ho).1);rw[ho] at h1;simp only[Array.all_eq_true_iff_forall_mem,Bool.or_eq_true,Qa,Bool.not_eq_true'] at h1;exact (h1 e he).resolve_left (by rw[hb];simp)
theorem RO{w:World}{D A:List Nat}{dst:Nat->Nat}{val:Nat->Value}{base:List (Nat×Value)}{m p:Nat}{ds:List Deferred}
 (hw:∀ (i:Nat) (o:Oper),ops[i]?=some o->∀ e∈o.after,Region.binds .any e=true->e.on<i) (hp:p<ops.size) (mW:p∉D)
 (Ce:∀ (i:Nat) (o:Oper),ops[i]?=some o->i∉D->i≠p->∃ e∈o.after,Region.binds .any e=true/\e.on∉D/\e.on<ops.size)
 (vD:∀ i∈D,i∉A->∃ o:Oper,ops[i]?=some o/\o.dst=some (dst i)) (aa:∀ i∈D,dst i<m) (l4:∀ i∈D,∀ j∈D,j≠i->dst i≠dst j) (ix:∀ i∈D,∀ q∈base,dst i≠q.1)
 (hy:∀ i∈D,i∉A->∀ o:Oper,ops[i]?=some o->∀ a:Act,(∀ q∈base,a.eval (.tmp q.1)=q.2)->(∀ e∈o.after,Region.binds .any e=true->e.on∈D->a.eval (.tmp (dst e.on))=val e.on)->YieldsIn P ops (λw'=>w'=w) o (val i) a)
 (vr:∀ f listed a,Held ops D A dst val base m ds (f+1) listed a->p∈Region.ready .any ops listed->wpOp P ops Q p (wpAny P .any ops Q f (listed.setIfInBounds p true)) a w) :
 ∀ f listed a,Held ops D A dst val base m ds f listed a->wpAny P .any ops Q f listed a w:=by
 intro f
 induction f with
 | zero=>intro listed a h;exact absurd h.good (ko.none hp mW)
 | succ f ih=>
  intro listed a h;have hg:=h.good;refine⟨λh0=>absurd h0 (QG hw hg.size p hp (hg.not p hp mW)),λi hi=>?_⟩;obtain⟨hr,o,ho,aA⟩:=mem_ready.1 hi;by_cases hip:i=p
  ·subst hip;exact vr f listed a h hi
  ·have fF:i∈D:=Decidable.byContradiction λfF=>by
    obtain⟨e,he,oY,gF,hes⟩:=Ce i o ho fF hip;have h1:=aA e he oY;have h2:=hg.not e.on hes gF;have h3:e.on<listed.size:=by rw[hg.size];exact hes
    simp[Array.getD,h3] at h1 h2;rw[h1] at h2
    cases h2
   have aH:i∉A:=λhA=>by
    have h1:=h.done i hA;have h3:i<listed.size:=by rw[hg.size];exact (eQ.1 ho).1
    simp[Array.getD,h3] at h1 hr;rw[h1] at hr;cases hr
   obtain⟨o',ho',hd⟩:=vD i fF aH;rw[ho] at ho';cases ho';have Bn:∀ e∈o.after,Region.binds .any e=true->e.on∈D->a.eval (.tmp (dst e.on))=val e.on:=λe he oY hD=>hg.val _ hD (aA e he oY);have hq:=ko.step (P:=P) hg fF hr ho hd (aa i fF) (l4 i fF) (ix i fF) (hy i fF aH o ho a hg.base Bn);exact wpOp_of_qOp (C:=λw'=>w'=w) rfl (λa' w' hw' h'=>by subst hw';exact ih _ a' ⟨h',λj hj=>nk (h.done j hj),DA hi h.clo⟩) hq
def JR(ops:Array Oper)(R:List Nat)(p:Nat):Bool:=(List.range ops.size).all λi=>i == p||R.contains i||(List.range ops.size).any λj=>decide (i<j)&&!R.contains j&&match ops[j]? with
 | some o=>o.after.any λe=>Region.binds .any e&&e.on == i
 | none=>false
theorem Held.most{D A R:List Nat}{dst:Nat->Nat}{val:Nat->Value}{base:List (Nat×Value)}{m p f:Nat}{ds:List Deferred}{listed:Array Bool}{a:Act}(h:Held ops D A dst val base m ds (f+1) listed a)(hp:p∈Region.ready .any ops listed)(hl:JR ops R p=true) :
 ∀ i,i<ops.size->i≠p->i∉R->listed.getD i false=true:=by
 unfold JR at hl;rw[List.all_eq_true] at hl;have key:∀ k i,ops.size - i=k->i<ops.size->i≠p->i∉R->listed.getD i false=true:=by
  intro k
  induction k using Nat.strongRecOn with
  | ind k ih=>
   intro i hk his hip tu;have h1:=hl i (by rw[List.mem_range];exact his);simp only[Bool.or_eq_true,beq_iff_eq,hip,List.contains_iff_mem,tu,false_or,List.any_eq_true,List.mem_range,Bool.and_eq_true,Qa,Bool.not_eq_true'] at h1;obtain⟨j,hj,⟨dD,Eh⟩,h2⟩:=h1;have Eh:j∉R:=λe=>by rw[List.contains_iff_mem.2 e] at Eh;cases Eh
   rw[pQ hj] at h2;simp only[Array.any_eq_true',Bool.and_eq_true,beq_iff_eq] at h2;obtain⟨e,he,hb,rfl⟩:=h2;by_cases vN:j=p
   ·subst vN;obtain⟨_,o,ho,aA⟩:=mem_ready.1 hp;rw[pQ hj] at ho
    cases ho
    exact aA e he hb
   ·exact h.clo j _ (pQ hj) (ih (ops.size - j) (by omega) j rfl hj vN Eh) e he hb
 exact λi hi hne hR=>key _ i rfl hi hne hR
structure Rest(ops:Array Oper)(R D:List Nat)(dst:Nat->Nat)(val:Nat->Value)(base:List (Nat×Value))(m:Nat)(ds:List Deferred)(f:Nat)(listed:Array Bool)(a:Act):Prop where
 defs:a.defers=ds
 size:listed.size=ops.size
 left:listed.toList.count false=f
 val:∀ i∈D,listed.getD i false=true->a.eval (.tmp (dst i))=val i
 base:∀ q∈base,a.eval (.tmp q.1)=q.2
 tmps:a.tmps.size=m
 out:∀ i,i<ops.size->i∉R->listed.getD i false=true
theorem Held.rest{D A R:List Nat}{dst:Nat->Nat}{val:Nat->Value}{base:List (Nat×Value)}{m p f:Nat}{ds:List Deferred}{listed:Array Bool}{a:Act}(h:Held ops D A dst val base m ds (f+1) listed a)(hp:p∈Region.ready .any ops listed)(mW:p∉D)(hl:JR ops R p=true) :
 Rest ops R D dst val base m ds f (listed.setIfInBounds p true) a:=by
 have hg:=h.good;obtain⟨dY,o,ho,_⟩:=mem_ready.1 hp;have fY:p<ops.size:=(eQ.1 ho).1;have dE:p<listed.size:=by rw[hg.size];exact fY
 have ab:listed[p]=false:=by simpa [Array.getD,dE] using dY
 refine⟨hg.defs,by simp[hg.size],?_,λi hi hl=>?_,hg.base,hg.tmps,λi hi hR=>?_⟩
 ·have h1:=hg.left;rw[Array.toList_setIfInBounds,List.count_set (by simpa using dE)];simp[ab,h1]
 ·rcases EM hl with rfl | hl
  ·exact absurd hi mW
  ·exact hg.val i hi hl
 ·by_cases hip:i=p
  ·subst hip;simp[Array.getD,dE]
  ·exact nk (h.most hp hl i hi hip hR)
theorem aJZ{w:World}{R D:List Nat}{dst:Nat->Nat}{val:Nat->Value}{a0:Act}{m:Nat}(hm:a0.tmps.size=m)
 (hw:∀ (i:Nat) (o:Oper),ops[i]?=some o->∀ e∈o.after,Region.binds .any e=true->e.on<i) (Im:∀ i∈R,i∈D) (Nm:∀ i∈D,i<ops.size)
 (vD:∀ i∈R,∃ o:Oper,ops[i]?=some o/\o.dst=some (dst i)) (aa:∀ i∈D,dst i<m) (l4:∀ i∈D,∀ j∈D,j≠i->dst i≠dst j) (hrel:∀ i∈R,∀ o:Oper,ops[i]?=some o->∀ e∈o.after,Region.binds .any e=true->e.on∈D)
 (hy:∀ i∈R,∀ o:Oper,ops[i]?=some o->∀ a:Act,(∀ e∈o.after,Region.binds .any e=true->a.eval (.tmp (dst e.on))=val e.on)->YieldsIn P ops (λw'=>w'=w) o (val i) a)
 (vH:Q .normal (lD a0 (D.map λi=>(dst i,val i))) w) :
 ∀ f listed a,Rest ops R D dst val (dS a0 m (D.map dst)) m a0.defers f listed a->wpAny P .any ops Q f listed a w:=by
 intro f
 induction f with
 | zero=>
  intro listed a h;have aA:∀ i,i<ops.size->listed.getD i false=true:=λi hi=>by
   have h1:=h.left;have dE:i<listed.size:=by rw[h.size];exact hi
   rw[List.count_eq_zero] at h1
   cases hb:listed[i] with
   | true=>simp[Array.getD,dE,hb]
   | false=>exact absurd (by rw[<-hb];simp) h1
  refine⟨wR aA h.size,?_⟩;have e:a=lD a0 (D.map λi=>(dst i,val i)):=by
   refine Qw (by rw[h.tmps,hm]) h.defs _ (λq hq=>?_) (λq hq=>?_) (λj hj=>?_)
   ·obtain⟨i,hi,rfl⟩:=List.mem_map.1 hq;rw[hm];exact aa i hi
   ·obtain⟨i,hi,rfl⟩:=List.mem_map.1 hq;exact h.val i hi (aA i (Nm i hi))
   ·by_cases BD:j<m
    ·refine bG h.base BD (λhd=>?_);obtain⟨i,hi,rfl⟩:=List.mem_map.1 hd;exact hj _ (List.mem_map.2 ⟨i,hi,rfl⟩) rfl
    ·have h1:=h.tmps;simp[Act.eval,Array.getD_eq_getD_getElem?,h1,hm,BD]
  rw[e];exact vH
 | succ f ih=>
  intro listed a h;refine⟨λh0=>?_,λi hi=>?_⟩
  ·have h1:=h.left;have h2:false∈listed.toList:=by rw[<-List.count_pos_iff];omega
   obtain⟨i,hi,he⟩:=nQ.1 h2;have dE:i<listed.size:=by simpa using hi
   exact absurd h0 (QG hw h.size i (by rw[<-h.size];exact dE) (by simpa [Array.getD,dE] using he))
  ·obtain⟨hr,o,ho,aA⟩:=mem_ready.1 hi;have BC:=(eQ.1 ho).1;have dE:i<listed.size:=by rw[h.size];exact BC
   have tu:i∈R:=Decidable.byContradiction λhR=>by
    have h1:=h.out i BC hR;simp[Array.getD,dE] at h1 hr;rw[h1] at hr;cases hr
   have ab:listed[i]=false:=by simpa [Array.getD,dE] using hr
   obtain⟨o',ho',hd⟩:=vD i tu;rw[ho] at ho';cases ho';have hq:qOp P ops (λw'=>w'=w) i (Rest ops R D dst val (dS a0 m (D.map dst)) m a0.defers f (listed.setIfInBounds i true)) a:=by
    refine (hy i tu o ho a (λe he hb=>h.val _ (hrel i tu o ho e he hb) (aA e he hb))).qOp ho ?_;rw[hd];refine⟨by simp[Act.put,h.defs],by simp[h.size],?_,λj hj hl=>?_,λq hq=>?_,by simp[Act.put,h.tmps],λj hj hR=>nk (h.out j hj hR)⟩
    ·have h1:=h.left;rw[Array.toList_setIfInBounds,List.count_set (by simpa using dE)];simp[ab,h1]
    ·by_cases hne:i=j
     ·subst hne;exact EX a _ _ (by rw[h.tmps];exact aa i (Im i tu))
     ·rw[wN _ _ _ _ (l4 i (Im i tu) j hj (λe=>hne e.symm))];refine h.val j hj ?_;rcases EM hl with rfl | hl
      ·exact absurd rfl hne
      ·exact hl
    ·rw[wN _ _ _ _ (cZ (List.mem_map.2 ⟨i,Im i tu,rfl⟩) q hq)];exact h.base q hq
   exact wpOp_of_qOp (C:=λw'=>w'=w) rfl (λa' w' hw' h'=>by subst hw';exact ih _ a' h') hq
end
section
variable {P:Program} {ops:Array Oper} {Q:Exit->Act->World->Prop}
theorem aIY{w:World}{D A T:List Nat}{dst:Nat->Nat}{val:Nat->Value}{base:List (Nat×Value)}{m p0:Nat}{ds:List Deferred}
 (hw:∀ (i:Nat) (o:Oper),ops[i]?=some o->∀ e∈o.after,e.on<i) (yz:p0<ops.size) (OL:p0∉D)
 (Ce:∀ (i:Nat) (o:Oper),ops[i]?=some o->i∉D->i∉T->∃ e∈o.after,Region.binds .any e=true/\e.on∉D/\e.on<ops.size)
 (vD:∀ i∈D,i∉A->∃ o:Oper,ops[i]?=some o/\o.dst=some (dst i)) (aa:∀ i∈D,dst i<m) (l4:∀ i∈D,∀ j∈D,j≠i->dst i≠dst j) (ix:∀ i∈D,∀ q∈base,dst i≠q.1)
 (hy:∀ i∈D,i∉A->∀ o:Oper,ops[i]?=some o->∀ a:Act,(∀ q∈base,a.eval (.tmp q.1)=q.2)->(∀ e∈o.after,Region.binds .any e=true->e.on∈D->a.eval (.tmp (dst e.on))=val e.on)->YieldsIn P ops (λw'=>w'=w) o (val i) a)
 (vr:∀ p∈T,∀ f listed a,Held ops D A dst val base m ds (f+1) listed a->p∈Region.ready .any ops listed->wpOp P ops Q p (wpAny P .any ops Q f (listed.setIfInBounds p true)) a w) :
 ∀ f listed a,Held ops D A dst val base m ds f listed a->wpAny P .any ops Q f listed a w:=by
 intro f
 induction f with
 | zero=>intro listed a h;exact absurd h.good (ko.none yz OL)
 | succ f ih=>
  intro listed a h;have hg:=h.good;refine⟨λh0=>absurd h0 (QF hw hg.size p0 yz (hg.not p0 yz OL)),λi hi=>?_⟩;obtain⟨hr,o,ho,aA⟩:=mem_ready.1 hi;by_cases hip:i∈T
  ·exact vr i hip f listed a h hi
  ·have fF:i∈D:=Decidable.byContradiction λfF=>by
    obtain⟨e,he,oY,gF,hes⟩:=Ce i o ho fF hip;have h1:=aA e he oY;have h2:=hg.not e.on hes gF;have h3:e.on<listed.size:=by rw[hg.size];exact hes
    simp[Array.getD,h3] at h1 h2;rw[h1] at h2
    cases h2
   have aH:i∉A:=λhA=>by
    have h1:=h.done i hA;have h3:i<listed.size:=by rw[hg.size];exact (eQ.1 ho).1
    simp[Array.getD,h3] at h1 hr;rw[h1] at hr;cases hr
   obtain⟨o',ho',hd⟩:=vD i fF aH;rw[ho] at ho';cases ho';have Bn:∀ e∈o.after,Region.binds .any e=true->e.on∈D->a.eval (.tmp (dst e.on))=val e.on:=λe he oY hD=>hg.val _ hD (aA e he oY);have hq:=ko.step (P:=P) hg fF hr ho hd (aa i fF) (l4 i fF) (ix i fF) (hy i fF aH o ho a hg.base Bn);exact wpOp_of_qOp (C:=λw'=>w'=w) rfl (λa' w' hw' h'=>by subst hw';exact ih _ a' ⟨h',λj hj=>nk (h.done j hj),DA hi h.clo⟩) hq
end
def uc(e:Nat->Value)(p:Nat)(v:Value)(i:Nat):Value:=if i=p then v else e i
def onB(o:Oper)(f:Nat->Bool):Bool:=o.after.any λx=>Region.binds .any x&&f x.on
def Dv(o:Oper)(f:Nat->Bool):Bool:=o.after.all λx=>!Region.binds .any x||f x.on
def Pr(ops:Array Oper)(ord T:List Nat)(p0 m:Nat)(dep:Nat->List Nat)(dst:Nat->Nat):Bool:=
 Kf ops&&decide (p0<ops.size)&&!ord.contains p0&&EJ ops p0&&((List.range ops.size).all λi=>i == p0||ord.contains i) &&
 (T.all λp=>ord.contains p&&dep p == [p])&&(ord.all λi=>(dep i).all (T.contains ·))&&(ord.all λi=>decide (i<ops.size)) &&
 (ord.all λi=>T.contains i||match ops[i]? with
   | some o=>o.dst == some (dst i)&&(dep i).all (λj=>onB o λk=>(dep k).contains j&&decide (k<ops.size))&&Dv o (λk=>ord.contains k&&(dep k).all ((dep i).contains ·))
   | none=>false) &&
 (match ops[p0]? with
   | some o=>T.all λj=>onB o λk=>(dep k).contains j&&decide (k<ops.size)
   | none=>false) &&
 (ord.all λi=>decide (dst i<m)&&ord.all λj=>j == i||!(dst i == dst j))
section
variable {P:Program} {ops:Array Oper} {Q:Exit->Act->World->Prop}
structure InvS(ops:Array Oper)(ord T:List Nat)(p0 m:Nat)(dep:Nat->List Nat)(dst:Nat->Nat):Prop where
 well:∀ (i:Nat) (o:Oper),ops[i]?=some o->∀ e∈o.after,e.on<i
 p0s:p0<ops.size
 p0o:p0∉ord
 last:EJ ops p0=true
 all:∀ i,i<ops.size->i=p0\/i∈ord
 tord:∀ p∈T,p∈ord/\dep p = [p]
 depT:∀ i∈ord,∀ j∈dep i,j∈T
 size:∀ i∈ord,i<ops.size
 qdst:∀ i∈ord,i∉T->∃ o,ops[i]?=some o/\o.dst=some (dst i)
 qon:∀ i∈ord,i∉T->∀ o,ops[i]?=some o->∀ j∈dep i,∃ e∈o.after,Region.binds .any e=true/\j∈dep e.on/\e.on<ops.size
 qall:∀ i∈ord,i∉T->∀ o,ops[i]?=some o->∀ e∈o.after,Region.binds .any e=true->e.on∈ord/\∀ j∈dep e.on,j∈dep i
 p0on:∀ o,ops[p0]?=some o->∀ j∈T,∃ e∈o.after,Region.binds .any e=true/\j∈dep e.on/\e.on<ops.size
 lt:∀ i∈ord,dst i<m
 inj:∀ i∈ord,∀ j∈ord,j≠i->dst i≠dst j
theorem P8{o:Oper}{f:Nat->Bool}(h:onB o f=true):∃ e∈o.after,Region.binds .any e=true/\f e.on=true:=by
 unfold onB at h;rw[Array.any_eq_true'] at h;obtain⟨e,he,h2⟩:=h;simp only[Bool.and_eq_true] at h2;exact⟨e,he,h2⟩
theorem UG{o:Oper}{f:Nat->Bool}(h:Dv o f=true):∀ e∈o.after,Region.binds .any e=true->f e.on=true:=by
 intro e he hb;unfold Dv at h;rw[Array.all_eq_true'] at h
 have:=h e he
 rw[hb] at this;simpa using this
theorem ZE{ord T:List Nat}{p0 m:Nat}{dep:Nat->List Nat}{dst:Nat->Nat}(h:Pr ops ord T p0 m dep dst=true):InvS ops ord T p0 m dep dst:=by
 unfold Pr at h;simp only[Bool.and_eq_true,Bool.not_eq_true',Qa,List.all_eq_true,Bool.or_eq_true,beq_iff_eq,List.contains_iff_mem,List.mem_range] at h;obtain⟨⟨⟨⟨⟨⟨⟨⟨⟨⟨h1,h2⟩,h3⟩,h4⟩,h5⟩,h6⟩,h7⟩,h8⟩,h9⟩,pT⟩,ya⟩:=h;have key:∀ i∈ord,i∉T->∃ o,ops[i]?=some o/\o.dst=some (dst i)/\(∀ j∈dep i,onB o (λk=>(dep k).contains j&&decide (k<ops.size))=true)/\Dv o (λk=>ord.contains k&&(dep k).all ((dep i).contains ·))=true:=λi hi hT=>by
  have h:=(h9 i hi).resolve_left hT;split at h
  ·rename_i o ho;simp only[Bool.and_eq_true,beq_iff_eq,List.all_eq_true] at h;exact⟨o,ho,h.1.1,h.1.2,h.2⟩
  ·cases h
 refine⟨iJ h1,h2,(λe=>by rw[List.contains_iff_mem.2 e] at h3;cases h3),h4,h5,h6,h7,h8,λi hi hT=>?_,λi hi hT o ho j hj=>?_,λi hi hT o ho e he hb=>?_,λo ho j hj=>?_,λi hi=>(ya i hi).1,λi hi j hj hne=>?_⟩
 ·obtain⟨o,ho,hd,_⟩:=key i hi hT;exact⟨o,ho,hd⟩
 ·obtain⟨o',ho',_,hk,_⟩:=key i hi hT;rw[ho] at ho';cases ho';obtain⟨e,he,hb,hf⟩:=P8 (hk j hj);simp only[Bool.and_eq_true,Qa,List.contains_iff_mem] at hf;exact⟨e,he,hb,hf⟩
 ·obtain⟨o',ho',_,_,hk⟩:=key i hi hT;rw[ho] at ho';cases ho';have hf:=UG hk e he hb;simp only[Bool.and_eq_true,List.contains_iff_mem,List.all_eq_true] at hf;exact hf
 ·rw[ho] at pT;simp only[List.all_eq_true] at pT;obtain⟨e,he,hb,hf⟩:=P8 (pT j hj);simp only[Bool.and_eq_true,Qa,List.contains_iff_mem] at hf;exact⟨e,he,hb,hf⟩
 ·have:=((ya i hi).2 j hj).resolve_left hne
  simpa using this
def jW(ord:List Nat)(dep:Nat->List Nat)(A:List Nat):List Nat:=ord.filter λi=>(dep i).all (A.contains ·)
theorem kR{ord:List Nat}{dep:Nat->List Nat}{A:List Nat}{i:Nat} : i∈jW ord dep A↔i∈ord/\∀ j∈dep i,j∈A:=by
 unfold jW;rw[List.mem_filter,List.all_eq_true];simp only[List.contains_iff_mem]
theorem MZ(p:Nat)(A:List Nat):∀ l:List Nat,(l.filter λq=>!(p::A).contains q).length<=(l.filter λq=>!A.contains q).length
 | []=>bQ _
 | y::l=>by
   have ih:=MZ p A l;by_cases hy:y∈A
   ·rw[List.filter_cons_of_neg (by simp[hy]),List.filter_cons_of_neg (by simp[hy])];exact ih
   ·by_cases yJ:y=p
    ·rw[List.filter_cons_of_neg (by simp[yJ]),List.filter_cons_of_pos (by simpa using hy),List.length_cons];omega
    ·rw[List.filter_cons_of_pos (by simp[hy,yJ]),List.filter_cons_of_pos (by simpa using hy),List.length_cons,List.length_cons];omega
theorem M0{p:Nat}{A:List Nat}(hA:p∉A):∀ {l:List Nat},p∈l->(l.filter λq=>!(p::A).contains q).length<(l.filter λq=>!A.contains q).length
 | [],h=>by cases h
 | y::l,h=>by
   by_cases yJ:y=p
   ·subst yJ;have ih:=MZ y A l;rw[List.filter_cons_of_neg (by simp),List.filter_cons_of_pos (by simpa using hA),List.length_cons];omega
   ·have ih:=M0 hA (List.mem_of_ne_of_mem (λe=>yJ e.symm) h);by_cases hy:y∈A
    ·rw[List.filter_cons_of_neg (by simp[hy]),List.filter_cons_of_neg (by simp[hy])];exact ih
    ·rw[List.filter_cons_of_pos (by simp[hy,yJ]),List.filter_cons_of_pos (by simpa using hy),List.length_cons,List.length_cons];omega
theorem aJQ{Inv:List Nat->(Nat->Value)->World->Prop}{ord T:List Nat}{p0 m:Nat}{dep:Nat->List Nat}{dst:Nat->Nat}{val:(Nat->Value)->Nat->Value}{a0:Act}
 (hS:InvS ops ord T p0 m dep dst) (hm:a0.tmps.size=m) (Y3:∀ e,∀ p∈T,val e p=e p) (pk:∀ (i:Nat) (e e':Nat->Value),(∀ j∈dep i,e j=e' j)->val e i=val e' i)
 (hq:∀ A e w,Inv A e w->∀ i∈ord,i∉T->(∀ j∈dep i,j∈A)->∀ o,ops[i]?=some o->∀ a:Act,(∀ q∈dS a0 m (ord.map dst),a.eval (.tmp q.1)=q.2)->(∀ x∈o.after,Region.binds .any x=true->a.eval (.tmp (dst x.on))=val e x.on)->YieldsIn P ops (λw'=>w'=w) o (val e i) a)
 (vr:∀ A e w,Inv A e w->∀ p∈T,p∉A->∀ o,ops[p]?=some o->∀ a:Act,(∀ q∈dS a0 m (ord.map dst),a.eval (.tmp q.1)=q.2)->(∀ x∈o.after,Region.binds .any x=true->a.eval (.tmp (dst x.on))=val e x.on/\∀ j∈dep x.on,j∈A)->∀ K:Act->World->Prop,(∀ v w',Inv (p::A) (uc e p v) w'->K (a.put (some (dst p)) v) w')->wpOp P ops Q p K a w)
 (dN:∀ A e w,Inv A e w->(∀ p∈T,p∈A)->∀ o,ops[p0]?=some o->∀ a:Act,(∀ i∈ord,a.eval (.tmp (dst i))=val e i)->(∀ q∈dS a0 m (ord.map dst),a.eval (.tmp q.1)=q.2)->a=lD a0 (ord.map λi=>(dst i,val e i))->∀ K:Act->World->Prop,(∀ a' w',Q .normal a' w'->K a' w')->wpOp P ops Q p0 K a w)
 {e0:Nat->Value} {w:World} (h0:Inv [] e0 w):wpAny P .any ops Q ops.size (Array.replicate ops.size false) a0 w:=by
 have main:∀ (n:Nat) (A:List Nat) (e:Nat->Value) (w:World) (f:Nat) (listed:Array Bool) (a:Act),(T.filter λp=>!A.contains p).length=n->(∀ p∈A,p∈T)->Inv A e w->Held ops (jW ord dep A) A dst (val e) (dS a0 m (ord.map dst)) m a0.defers f listed a->wpAny P .any ops Q f listed a w:=by
  intro n
  induction n using Nat.strongRecOn with
  | ind n ih=>
   intro A e w f listed a hn hA hI hH;have tc:∀ {i},i∈jW ord dep A->i∈ord:=λh=>(kR.1 h).1;have BW:∀ i∈jW ord dep A,i∉A->i∉T:=λi hi aH hT=>by
    obtain⟨h1,h2⟩:=kR.1 hi;exact aH (h2 i (by rw[(hS.tord i hT).2];simp))
   have aa:∀ i∈jW ord dep A,dst i<m:=λi hi=>hS.lt i (tc hi);have l4:∀ i∈jW ord dep A,∀ j∈jW ord dep A,j≠i->dst i≠dst j:=λi hi j hj=>hS.inj i (tc hi) j (tc hj);have ix:∀ i∈ord,∀ q∈dS a0 m (ord.map dst),dst i≠q.1:=λi hi=>cZ (List.mem_map.2 ⟨i,hi,rfl⟩);have NY:∀ i∈jW ord dep A,i∉A->∃ o:Oper,ops[i]?=some o/\o.dst=some (dst i):=λi hi aH=>hS.qdst i (tc hi) (BW i hi aH);have hy:∀ i∈jW ord dep A,i∉A->∀ o:Oper,ops[i]?=some o->∀ a:Act,(∀ q∈dS a0 m (ord.map dst),a.eval (.tmp q.1)=q.2)->(∀ x∈o.after,Region.binds .any x=true->x.on∈jW ord dep A->a.eval (.tmp (dst x.on))=val e x.on)->YieldsIn P ops (λw'=>w'=w) o (val e i) a:=λi hi aH o ho a hb hx=>by
    obtain⟨h1,h2⟩:=kR.1 hi;refine hq A e w hI i h1 (BW i hi aH) h2 o ho a hb (λx yH ng=>hx x yH ng ?_);obtain⟨h3,h4⟩:=hS.qall i h1 (BW i hi aH) o ho x yH ng;exact kR.2 ⟨h3,λj hj=>h2 j (h4 j hj)⟩
   by_cases aA:∀ p∈T,p∈A
   ·have hD:∀ i∈ord,i∈jW ord dep A:=λi hi=>kR.2 ⟨hi,λj hj=>aA j (hS.depT i hi j hj)⟩;refine iK (p:=p0) hS.well hS.p0s (λh=>hS.p0o (tc h)) (λi o ho hi hne=>absurd (hD i ((hS.all i (eQ.1 ho).1).resolve_left hne)) hi) NY aa l4 (λi hi=>ix i (tc hi)) hy ?_ f listed a hH;intro f listed a hH hr;obtain⟨rfl,hl⟩:=hH.all hr hS.last;have mT:∀ i∈ord,listed.getD i false=true:=λi hi=>hl i (hS.size i hi) (λe=>hS.p0o (e ▸ hi));obtain⟨_,o,ho,_⟩:=mem_ready.1 hr;have WE:jW ord dep A=ord:=List.filter_eq_self.2 λi hi=>List.all_eq_true.2 λj hj=>List.contains_iff_mem.2 ((kR.1 (hD i hi)).2 j hj);have hH':=hH;rw[WE] at hH';have vI:=Held.frame (D:=ord) hH' hm mT hS.lt;refine dN A e w hI aA o ho a (λi hi=>hH.good.val i (hD i hi) (mT i hi)) hH.good.base vI _ (λa' w' hQ=>⟨wR (λi hi=>?_) (by rw[Array.size_setIfInBounds];exact hH.good.size),hQ⟩);by_cases hip:i=p0
    ·subst hip;have hs:i<listed.size:=by rw[hH.good.size];exact hi
     simp[Array.getD,hs]
    ·exact nk (hl i hi hip)
   ·obtain⟨r,hr⟩:=Classical.not_forall.1 aA;obtain⟨Jb,YE⟩:=Classical.not_imp.1 hr;have OQ:∀ k,r∈dep k->k∉jW ord dep A:=λk hk hm=>YE ((kR.1 hm).2 r hk);refine aIY (T:=T.filter λp=>!A.contains p) (p0:=r) hS.well (hS.size r (hS.tord r Jb).1) (OQ r (by rw[(hS.tord r Jb).2];simp)) (λi o ho hi IM=>?_) NY aa l4 (λi hi=>ix i (tc hi)) hy ?_ f listed a hH
    ·rcases hS.all i (eQ.1 ho).1 with rfl | BC
     ·obtain⟨x,hx,hb,hj,hs⟩:=hS.p0on o ho r Jb;exact⟨x,hx,hb,OQ _ hj,hs⟩
     ·have hj:∃ j∈dep i,j∉A:=Classical.byContradiction λh=>hi (kR.2 ⟨BC,λj hj=>Classical.byContradiction λh2=>h ⟨j,hj,h2⟩⟩);obtain⟨j,hj,Oh⟩:=hj;by_cases hT:i∈T
      ·rw[(hS.tord i hT).2,List.mem_singleton] at hj;subst hj;exact absurd (List.mem_filter.2 ⟨hT,by simpa using Oh⟩) IM
      ·obtain⟨x,hx,hb,tw,hs⟩:=hS.qon i BC hT o ho j hj;exact⟨x,hx,hb,λhm=>Oh ((kR.1 hm).2 j tw),hs⟩
    ·intro p hp f listed a hH hr;obtain⟨vY,rI⟩:=List.mem_filter.1 hp;have rI:p∉A:=by simpa using rI
     obtain⟨_,o,ho,aJ⟩:=mem_ready.1 hr;have mW:p∉jW ord dep A:=λhm=>rI ((kR.1 hm).2 p (by rw[(hS.tord p vY).2];simp));have qa:=(hS.tord p vY).1;refine vr A e w hI p vY rI o ho a hH.good.base (λx hx hb=>?_) _ (λv w' hI'=>?_)
     ·have h1:=aJ x hx hb;have kN:x.on<ops.size:=by have:=hS.well p o ho x hx;have:=hS.size p qa;omega
      have O8:x.on∈jW ord dep A:=Classical.byContradiction λhn=>by
       have h2:=hH.good.not x.on kN hn;have h3:x.on<listed.size:=by rw[hH.good.size];exact kN
       simp[Array.getD,h3] at h1 h2;rw[h1] at h2;cases h2
      exact⟨hH.good.val _ O8 h1,(kR.1 O8).2⟩
     ·refine ih _ ?_ (p::A) (uc e p v) w' f _ _ rfl (λq hq=>by rcases List.mem_cons.1 hq with rfl | hq;exact vY;exact hA q hq) hI' (hH.act (D':=jW ord dep (p::A)) (val':=val (uc e p v)) hr mW (λi hi=>?_) (λi hi=>pk i _ _ λj hj=>?_) ((Y3 _ p vY).trans (by simp[uc])) (hS.lt p qa) (λj hj=>hS.inj p qa j (tc hj) (λe=>mW (e ▸ hj))) (ix p qa) (hS.size p qa))
      ·rw[<-hn];exact M0 rI vY
      ·refine⟨λhm=>hi (kR.2 ⟨(kR.1 hm).1,λj hj=>mQ _ ((kR.1 hm).2 j hj)⟩),λe=>hi ?_⟩;subst e;exact kR.2 ⟨qa,λj hj=>by rw[(hS.tord i vY).2] at hj;simpa using Or.inl hj⟩
      ·have:=(kR.1 hi).2 j hj
       have vN:j≠p:=λe=>rI (e ▸ this);simp[uc,vN]
 exact main _ [] e0 w ops.size _ a0 rfl (λp hp=>by cases hp) h0 (Held.start (λq hq=>wT q hq) hm)
end
end
end Go.Proofs.YtfnopgdcaanaiaaGreatDoor
