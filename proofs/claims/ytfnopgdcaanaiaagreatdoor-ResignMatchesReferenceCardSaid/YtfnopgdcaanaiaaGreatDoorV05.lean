/- Parts of the proof. No condition. -/
import Derived.Shelf.SlicesE.Clone
import Derived.Test.YtfnopgdcaanaiaaGreatDoorProg
import Derived.Shelf.Strings.OnBuilder
import Derived.Shelf.Strconv.Itoa3
import Derived.Shelf.Strings.LastIndex
import Derived.Shelf.Strings.Prefix
import Derived.Shelf.SlSortCmp.NoneTotal
import Derived.Test.YtfnopgdcaanaiaaGreatDoorV01
set_option linter.all false
set_option maxRecDepth 100000
set_option maxHeartbeats 8000000
namespace Go.Proofs.YtfnopgdcaanaiaaGreatDoor
namespace Np
def inS(l:List Span)(t:Int):Prop:=∃ s∈l,s.frm<=t/\t<s.til
structure ApartS(l:List Span):Prop where
 full:∀ s∈l,s.frm<s.til
 apart:l.Pairwise λa b=>a.til<b.frm
theorem iX(t:Int):¬ inS [] t:=λ⟨_,h,_⟩=>by cases h
theorem gw{a:Span}{l:List Span}{t:Int} : inS (a::l) t↔(a.frm<=t/\t<a.til)\/inS l t:=by
 constructor
 ·rintro⟨s,hs,h⟩;rcases List.mem_cons.1 hs with e | hs
  ·subst e;exact .inl h
  ·exact .inr ⟨s,hs,h⟩
 ·rintro (h | ⟨s,hs,h⟩)
  ·exact⟨a,by simp,h⟩
  ·exact⟨s,mQ _ hs,h⟩
theorem qJ{a b:List Span}{t:Int} : inS (a++b) t↔inS a t\/inS b t:=by
 constructor
 ·rintro⟨s,hs,h⟩;rcases List.mem_append.1 hs with hs | hs
  ·exact .inl ⟨s,hs,h⟩
  ·exact .inr ⟨s,hs,h⟩
 ·rintro (⟨s,hs,h⟩ | ⟨s,hs,h⟩)
  ·exact⟨s,List.mem_append_left _ hs,h⟩
  ·exact⟨s,List.mem_append_right _ hs,h⟩
theorem ApartS.tail{a:Span}{l:List Span}(h:ApartS (a::l)):ApartS l:=⟨λs hs=>h.full s (mQ _ hs),(List.pairwise_cons.1 h.apart).2⟩
theorem ApartS.nil:ApartS []:=⟨λ_ h=>(by cases h),List.Pairwise.nil⟩
theorem ApartS.above{a:Span}{l:List Span}(h:ApartS (a::l)){t:Int}(ht:inS l t):a.til<t:=by
 obtain⟨s,hs,h1,_⟩:=ht
 have:=(List.pairwise_cons.1 h.apart).1 s hs
 omega
theorem ApartS.from{a:Span}{l:List Span}(h:ApartS (a::l)){t:Int}(ht:inS (a::l) t):a.frm<=t:=by
 rcases gw.1 ht with h1 | h1
 ·exact h1.1
 ·have h2:=h.above h1;have h3:=h.full a (by simp);omega
theorem GX:∀ (l m:List Span),ApartS l->ApartS m->(∀ t,inS l t↔inS m t)->l=m
 | [],[],_,_,_=>rfl
 | [],b::m,_,hm,h=>absurd ((h b.frm).2 ⟨b,by simp,Int.le_refl _,hm.full b (by simp)⟩) (iX _)
 | a::l,[],hl,_,h=>absurd ((h a.frm).1 ⟨a,by simp,Int.le_refl _,hl.full a (by simp)⟩) (iX _)
 | a::l,b::m,hl,hm,h=>by
   have fa:=hl.full a (by simp);have fb:=hm.full b (by simp);have e1:a.frm=b.frm:=by
    have h1:=hm.from ((h a.frm).1 ⟨a,by simp,Int.le_refl _,fa⟩);have h2:=hl.from ((h b.frm).2 ⟨b,by simp,Int.le_refl _,fb⟩);omega
   have e2:a.til=b.til:=by
    rcases Int.lt_trichotomy a.til b.til with aa | he | aa
    ·exfalso
     have:=(h a.til).2 (gw.2 (.inl ⟨by omega,aa⟩))
     rcases gw.1 this with h1 | h1
     ·omega
     ·have:=hl.above h1;omega
    ·exact he
    ·exfalso
     have:=(h b.til).1 (gw.2 (.inl ⟨by omega,aa⟩))
     rcases gw.1 this with h1 | h1
     ·omega
     ·have:=hm.above h1;omega
   have e:a=b:=by obtain⟨_,_⟩:=a;obtain⟨_,_⟩:=b;simp only at e1 e2;rw[e1,e2]
   subst e;rw[GX l m hl.tail hm.tail (λt=>by
    constructor
    ·intro ht;have h1:=hl.above ht;rcases gw.1 ((h t).1 (gw.2 (.inr ht))) with h2 | h2
     ·omega
     ·exact h2
    ·intro ht;have h1:=hm.above ht;rcases gw.1 ((h t).2 (gw.2 (.inr ht))) with h2 | h2
     ·omega
     ·exact h2)]
def gF(out:List Span)(s:Span):List Span:=
 match out.getLast? with
 | none=>[s]
 | some p=>if s.frm<=p.til then out.dropLast ++ [⟨p.frm,max p.til s.til⟩] else out ++ [s]
theorem Ro(s:Span):gF [] s = [s]:=rfl
theorem Ki(o:List Span)(p s:Span):gF (o ++ [p]) s=if s.frm<=p.til then o ++ [⟨p.frm,max p.til s.til⟩] else o ++ [p] ++ [s]:=by simp[gF]
theorem azZ{out:List Span}{s:Span}(ho:ApartS out)(hs:s.frm<s.til)(hf:∀ p∈out,p.frm<=s.frm):ApartS (gF out s)/\(∀ t,inS (gF out s) t↔inS out t\/(s.frm<=t/\t<s.til))/\∀ p∈gF out s,p.frm<=s.frm:=by
 rcases List.eq_nil_or_concat out with rfl | ⟨o,p,rfl⟩
 ·rw[Ro];refine⟨⟨λx hx=>?_,by simp⟩,λt=>?_,λx hx=>?_⟩
  ·rw[List.mem_singleton] at hx;subst hx;exact hs
  ·rw[gw];constructor
   ·rintro (h | h);exact .inr h;exact absurd h (iX t)
   ·rintro (h | h);exact absurd h (iX t);exact .inl h
  ·rw[List.mem_singleton] at hx;subst hx;exact Int.le_refl _
 ·rw[List.concat_eq_append] at ho hf |-;rw[Ki];have hp:=hf p (by simp);have Ef:=ho.full p (by simp);obtain⟨a1,a2,a3⟩:=List.pairwise_append.1 ho.apart;split
  ·rename_i eV;have yq:=Int.le_max_left p.til s.til;have iz:=Int.le_max_right p.til s.til;have hm3:max p.til s.til=p.til\/max p.til s.til=s.til:=by omega
   refine⟨⟨λx hx=>?_,?_⟩,λt=>?_,λx hx=>?_⟩
   ·rcases List.mem_append.1 hx with hx | hx
    ·exact ho.full x (List.mem_append_left _ hx)
    ·rw[List.mem_singleton] at hx;subst hx;dsimp only;omega
   ·refine List.pairwise_append.2 ⟨a1,by simp,λx hx y hy=>?_⟩;rw[List.mem_singleton] at hy;subst hy;exact a3 x hx p (by simp)
   ·rw[qJ,qJ,gw,gw];dsimp only;constructor
    ·rintro (h | h | h)
     ·exact .inl (.inl h)
     ·rcases Int.lt_or_le t p.til with h2 | h2
      ·exact .inl (.inr (.inl ⟨h.1,h2⟩))
      ·exact .inr ⟨by omega,by omega⟩
     ·exact absurd h (iX t)
    ·rintro ((h | h | h) | h)
     ·exact .inl h
     ·exact .inr (.inl ⟨h.1,by omega⟩)
     ·exact absurd h (iX t)
     ·exact .inr (.inl ⟨by omega,by omega⟩)
   ·rcases List.mem_append.1 hx with hx | hx
    ·exact hf x (List.mem_append_left _ hx)
    ·rw[List.mem_singleton] at hx;subst hx;exact hp
  ·rename_i eV;refine⟨⟨λx hx=>?_,?_⟩,λt=>?_,λx hx=>?_⟩
   ·rcases List.mem_append.1 hx with hx | hx
    ·exact ho.full x hx
    ·rw[List.mem_singleton] at hx;subst hx;exact hs
   ·refine List.pairwise_append.2 ⟨ho.apart,by simp,λx hx y hy=>?_⟩;rw[List.mem_singleton] at hy;subst hy;rcases List.mem_append.1 hx with hx | hx
    ·have:=a3 x hx p (by simp);omega
    ·rw[List.mem_singleton] at hx;subst hx;omega
   ·rw[qJ,gw];constructor
    ·rintro (h | h | h)
     ·exact .inl h
     ·exact .inr h
     ·exact absurd h (iX t)
    ·rintro (h | h)
     ·exact .inl h
     ·exact .inr (.inl h)
   ·rcases List.mem_append.1 hx with hx | hx
    ·exact hf x hx
    ·rw[List.mem_singleton] at hx;subst hx;exact Int.le_refl _
theorem Rn:∀ (l out:List Span),ApartS out->(∀ s∈l,s.frm<s.til)->l.Pairwise (λa b=>a.frm<=b.frm)->(∀ p∈out,∀ s∈l,p.frm<=s.frm)->ApartS (l.foldl gF out)/\∀ t,inS (l.foldl gF out) t↔inS out t\/inS l t
 | [],out,ho,_,_,_=>⟨ho,λt=>⟨.inl,λh=>h.elim id (λh=>absurd h (iX t))⟩⟩
 | s::l,out,ho,hf,hs,hp=>by
   obtain⟨h1,h2,h3⟩:=azZ ho (hf s (by simp)) (λp I1=>hp p I1 s (by simp));obtain⟨q1,q2⟩:=List.pairwise_cons.1 hs;obtain⟨h4,h5⟩:=Rn l (gF out s) h1 (λx hx=>hf x (mQ _ hx)) q2 (λp I1 x hx=>by
    have:=h3 p I1
    have:=q1 x hx
    omega)
   refine⟨h4,λt=>?_⟩;rw[List.foldl_cons,h5,h2,gw,or_assoc]
def nT:List Span->Span->List Span
 | [],s=>[s]
 | x::l,s=>if x.til<s.frm then x::nT l s else if s.til<x.frm then s::x::l else nT l ⟨min s.frm x.frm,max s.til x.til⟩
theorem Kr:∀ (l:List Span) (s:Span),ApartS l->s.frm<s.til->ApartS (nT l s)/\(∀ t,inS (nT l s) t↔inS l t\/(s.frm<=t/\t<s.til))/\∀ b:Int,(∀ x∈l,b<x.frm)->b<s.frm->∀ x∈nT l s,b<x.frm
 | [],s,_,hs=>by
   refine⟨⟨λx hx=>?_,by simp[nT]⟩,λt=>?_,λb _ hb x hx=>?_⟩
   ·rw[nT,List.mem_singleton] at hx;subst hx;exact hs
   ·rw[nT,gw];constructor
    ·rintro (h | h);exact .inr h;exact absurd h (iX t)
    ·rintro (h | h);exact absurd h (iX t);exact .inl h
   ·rw[nT,List.mem_singleton] at hx;subst hx;exact hb
 | x::l,s,hl,hs=>by
   have fx:=hl.full x (by simp);have px:=(List.pairwise_cons.1 hl.apart).1;rw[nT];split
   ·rename_i h1;obtain⟨i1,i2,i3⟩:=Kr l s hl.tail hs;refine⟨⟨λy hy=>?_,List.pairwise_cons.2 ⟨i3 x.til px h1,i1.apart⟩⟩,λt=>?_,λb hb pD y hy=>?_⟩
    ·rcases List.mem_cons.1 hy with e | hy
     ·subst e;exact fx
     ·exact i1.full y hy
    ·rw[gw,i2,gw,or_assoc]
    ·rcases List.mem_cons.1 hy with e | hy
     ·subst e;exact hb y (by simp)
     ·exact i3 b (λz hz=>hb z (mQ _ hz)) pD y hy
   ·rename_i h1;split
    ·rename_i h2;refine⟨⟨λy hy=>?_,List.pairwise_cons.2 ⟨λy hy=>?_,hl.apart⟩⟩,λt=>?_,λb hb pD y hy=>?_⟩
     ·rcases List.mem_cons.1 hy with e | hy
      ·subst e;exact hs
      ·exact hl.full y hy
     ·rcases List.mem_cons.1 hy with e | hy
      ·subst e;exact h2
      ·have:=px y hy;omega
     ·rw[gw,Or.comm]
     ·rcases List.mem_cons.1 hy with e | hy
      ·subst e;exact pD
      ·exact hb y hy
    ·rename_i h2;have hm:min s.frm x.frm<max s.til x.til:=by omega
     obtain⟨i1,i2,i3⟩:=Kr l ⟨min s.frm x.frm,max s.til x.til⟩ hl.tail hm;refine⟨i1,λt=>?_,λb hb pD y hy=>?_⟩
     ·rw[i2,gw];dsimp only;constructor
      ·rintro (h | h)
       ·exact .inl (.inr h)
       ·by_cases h3:s.frm<=t/\t<s.til
        ·exact .inr h3
        ·exact .inl (.inl (by omega))
      ·rintro ((h | h) | h)
       ·exact .inr (by omega)
       ·exact .inl h
       ·exact .inr (by omega)
     ·have:=hb x (by simp)
      exact i3 b (λz hz=>hb z (mQ _ hz)) (by dsimp only;omega) y hy
end Np
end Go.Proofs.YtfnopgdcaanaiaaGreatDoor
namespace Go.Proofs
open YtfnopgdcaanaiaaGreatDoor
open Go.Shelf
def Tryz.sortSpan_ren:Go.Shelf.Ren:=⟨fun | 6=>121 | 15=>186 | 14=>205 | 28=>259 | 29=>260 | 20=>273 | 21=>274 | 22=>275 | 23=>276 | 24=>277 | 25=>278 | 26=>279 | 27=>280 | 46=>335 | 47=>322 | 48=>323 | 49=>336 | 50=>337 | 57=>359 | n=>n,fun | 22=>55 | 24=>110 | 25=>189 | 3=>3 | 39=>249 | 0=>0 | 53=>92 | 55=>48 | 4=>4 | 46=>305 | 45=>304 | 50=>214 | 5=>5 | 9=>9 | 66=>351 | 70=>355 | 76=>376 | 77=>377 | n=>n,fun | n=>n⟩
theorem Tryz.sortSpan:Go.Proofs.SlLaysF0.n6 Tryz.prog Tryz.sortSpan_ren:={
 mixed:=by kernel_rfl
 f6:=⟨Tryz.f121.name,by decide,Tryz.func121.trans (aLJ)⟩
 f14:=⟨Tryz.f205.name,by decide,Tryz.func205.trans (aLJ)⟩
 f15:=Tryz.func186.trans (aLJ)
 f20:=⟨Tryz.f273.name,by decide,Tryz.func273.trans (aLJ)⟩
 f21:=⟨Tryz.f274.name,by decide,Tryz.func274.trans (aLJ)⟩
 f22:=⟨Tryz.f275.name,by decide,Tryz.func275.trans (aLJ)⟩
 f23:=⟨Tryz.f276.name,by decide,Tryz.func276.trans (aLJ)⟩
 f24:=⟨Tryz.f277.name,by decide,Tryz.func277.trans (aLJ)⟩
 f25:=⟨Tryz.f278.name,by decide,Tryz.func278.trans (aLJ)⟩
 f26:=⟨Tryz.f279.name,by decide,Tryz.func279.trans (aLJ)⟩
 f27:=⟨Tryz.f280.name,by decide,Tryz.func280.trans (aLJ)⟩
 f28:=Tryz.func259.trans (aLJ)
 f29:=Tryz.func260.trans (aLJ)
 f46:=⟨Tryz.f335.name,by decide,Tryz.func335.trans (aLJ)⟩
 f47:=Tryz.func322.trans (aLJ)
 f48:=Tryz.func323.trans (aLJ)
 f49:=⟨Tryz.f336.name,by decide,Tryz.func336.trans (aLJ)⟩
 f50:=⟨Tryz.f337.name,by decide,Tryz.func337.trans (aLJ)⟩
 f57:=⟨Tryz.f359.name,by decide,Tryz.func359.trans (aLJ)⟩
 t0:=Tryz.underlying0
 a0:=Tryz.isAgg0
 z0:=Tryz.sizeOf0
 v0:=Tryz.zeroValue0
 t3:=Tryz.underlying3
 a3:=Tryz.isAgg3
 z3:=Tryz.sizeOf3
 v3:=Tryz.zeroValue3
 t4:=Tryz.underlying4
 a4:=Tryz.isAgg4
 z4:=Tryz.sizeOf4
 v4:=Tryz.zeroValue4
 t5:=Tryz.underlying5
 a5:=Tryz.isAgg5
 z5:=Tryz.sizeOf5
 v5:=Tryz.zeroValue5
 t9:=Tryz.underlying9
 a9:=Tryz.isAgg9
 z9:=Tryz.sizeOf9
 v9:=Tryz.zeroValue9
 t22:=Tryz.underlying55
 a22:=Tryz.isAgg55
 z22:=Tryz.sizeOf55
 v22:=Tryz.zeroValue55
 t25:=Tryz.underlying189
 a25:=Tryz.isAgg189
 z25:=Tryz.sizeOf189
 v25:=Tryz.zeroValue189
 t39:=Tryz.underlying249
 a39:=Tryz.isAgg249
 z39:=Tryz.sizeOf249
 v39:=Tryz.zeroValue249
 t45:=Tryz.underlying304
 a45:=Tryz.isAgg304
 z45:=Tryz.sizeOf304
 v45:=Tryz.zeroValue304
 t46:=Tryz.underlying305
 a46:=Tryz.isAgg305
 z46:=Tryz.sizeOf305
 v46:=Tryz.zeroValue305
 t50:=Tryz.underlying214
 a50:=Tryz.isAgg214
 z50:=Tryz.sizeOf214
 v50:=Tryz.zeroValue214
 t53:=Tryz.underlying92
 a53:=Tryz.isAgg92
 z53:=Tryz.sizeOf92
 v53:=Tryz.zeroValue92
 t55:=Tryz.underlying48
 a55:=Tryz.isAgg48
 z55:=Tryz.sizeOf48
 v55:=Tryz.zeroValue48
 t66:=Tryz.underlying351
 a66:=Tryz.isAgg351
 z66:=Tryz.sizeOf351
 v66:=Tryz.zeroValue351
 t70:=Tryz.underlying355
 a70:=Tryz.isAgg355
 z70:=Tryz.sizeOf355
 v70:=Tryz.zeroValue355
 t76:=Tryz.underlying376
 a76:=Tryz.isAgg376
 z76:=Tryz.sizeOf376
 v76:=Tryz.zeroValue376
 t77:=Tryz.underlying377
 a77:=Tryz.isAgg377
 z77:=Tryz.sizeOf377
 v77:=Tryz.zeroValue377 }
end Go.Proofs
namespace Go.Proofs.YtfnopgdcaanaiaaGreatDoor
section
open Go.RowKit
section
variable {P:Program} {ops:Array Oper} {md:Region.Mode} {C:World->Prop}
end
end
end Go.Proofs.YtfnopgdcaanaiaaGreatDoor
namespace Go.Proofs
open YtfnopgdcaanaiaaGreatDoor
open Go.Shelf
def Tryz.laysSort6_ren:Go.Shelf.Ren:=⟨fun | 6=>135 | 15=>186 | 14=>213 | 28=>259 | 29=>260 | 20=>289 | 21=>290 | 22=>291 | 23=>292 | 24=>293 | 25=>294 | 26=>295 | 27=>296 | 46=>342 | 47=>322 | 48=>323 | 49=>343 | 50=>344 | 57=>362 | n=>n,fun | 22=>116 | 24=>9 | 25=>212 | 3=>3 | 39=>249 | 0=>0 | 53=>92 | 55=>48 | 4=>4 | 46=>305 | 45=>304 | 50=>214 | 5=>5 | 9=>9 | 66=>351 | 70=>355 | 76=>376 | 77=>377 | n=>n,fun | n=>n⟩
theorem Tryz.laysSort6:Go.Proofs.SlLaysF.n6 Tryz.prog Tryz.laysSort6_ren:={
 mixed:=by kernel_rfl
 f6:=⟨Tryz.f135.name,by decide,Tryz.func135.trans (aLJ)⟩
 f14:=⟨Tryz.f213.name,by decide,Tryz.func213.trans (aLJ)⟩
 f15:=Tryz.func186.trans (aLJ)
 f20:=⟨Tryz.f289.name,by decide,Tryz.func289.trans (aLJ)⟩
 f21:=⟨Tryz.f290.name,by decide,Tryz.func290.trans (aLJ)⟩
 f22:=⟨Tryz.f291.name,by decide,Tryz.func291.trans (aLJ)⟩
 f23:=⟨Tryz.f292.name,by decide,Tryz.func292.trans (aLJ)⟩
 f24:=⟨Tryz.f293.name,by decide,Tryz.func293.trans (aLJ)⟩
 f25:=⟨Tryz.f294.name,by decide,Tryz.func294.trans (aLJ)⟩
 f26:=⟨Tryz.f295.name,by decide,Tryz.func295.trans (aLJ)⟩
 f27:=⟨Tryz.f296.name,by decide,Tryz.func296.trans (aLJ)⟩
 f28:=Tryz.func259.trans (aLJ)
 f29:=Tryz.func260.trans (aLJ)
 f46:=⟨Tryz.f342.name,by decide,Tryz.func342.trans (aLJ)⟩
 f47:=Tryz.func322.trans (aLJ)
 f48:=Tryz.func323.trans (aLJ)
 f49:=⟨Tryz.f343.name,by decide,Tryz.func343.trans (aLJ)⟩
 f50:=⟨Tryz.f344.name,by decide,Tryz.func344.trans (aLJ)⟩
 f57:=⟨Tryz.f362.name,by decide,Tryz.func362.trans (aLJ)⟩
 t0:=Tryz.underlying0
 a0:=Tryz.isAgg0
 z0:=Tryz.sizeOf0
 v0:=Tryz.zeroValue0
 t3:=Tryz.underlying3
 a3:=Tryz.isAgg3
 z3:=Tryz.sizeOf3
 v3:=Tryz.zeroValue3
 t4:=Tryz.underlying4
 a4:=Tryz.isAgg4
 z4:=Tryz.sizeOf4
 v4:=Tryz.zeroValue4
 t5:=Tryz.underlying5
 a5:=Tryz.isAgg5
 z5:=Tryz.sizeOf5
 v5:=Tryz.zeroValue5
 t9:=Tryz.underlying9
 a9:=Tryz.isAgg9
 z9:=Tryz.sizeOf9
 v9:=Tryz.zeroValue9
 t22:=Tryz.underlying116
 a22:=Tryz.isAgg116
 z22:=Tryz.sizeOf116
 v22:=Tryz.zeroValue116
 a24:=Tryz.isAgg9
 z24:=Tryz.sizeOf9
 t25:=Tryz.underlying212
 a25:=Tryz.isAgg212
 z25:=Tryz.sizeOf212
 v25:=Tryz.zeroValue212
 t39:=Tryz.underlying249
 a39:=Tryz.isAgg249
 z39:=Tryz.sizeOf249
 v39:=Tryz.zeroValue249
 t45:=Tryz.underlying304
 a45:=Tryz.isAgg304
 z45:=Tryz.sizeOf304
 v45:=Tryz.zeroValue304
 t46:=Tryz.underlying305
 a46:=Tryz.isAgg305
 z46:=Tryz.sizeOf305
 v46:=Tryz.zeroValue305
 t50:=Tryz.underlying214
 a50:=Tryz.isAgg214
 z50:=Tryz.sizeOf214
 v50:=Tryz.zeroValue214
 t53:=Tryz.underlying92
 a53:=Tryz.isAgg92
 z53:=Tryz.sizeOf92
 v53:=Tryz.zeroValue92
 t55:=Tryz.underlying48
 a55:=Tryz.isAgg48
 z55:=Tryz.sizeOf48
 v55:=Tryz.zeroValue48
 t66:=Tryz.underlying351
 a66:=Tryz.isAgg351
 z66:=Tryz.sizeOf351
 v66:=Tryz.zeroValue351
 t70:=Tryz.underlying355
 a70:=Tryz.isAgg355
 z70:=Tryz.sizeOf355
 v70:=Tryz.zeroValue355
 t76:=Tryz.underlying376
 a76:=Tryz.isAgg376
 z76:=Tryz.sizeOf376
 v76:=Tryz.zeroValue376
 t77:=Tryz.underlying377
 a77:=Tryz.isAgg377
 z77:=Tryz.sizeOf377
 v77:=Tryz.zeroValue377 }
def Tryz.laysSort06_ren:Go.Shelf.Ren:=⟨fun | 6=>135 | 15=>186 | 14=>213 | 28=>259 | 29=>260 | 20=>289 | 21=>290 | 22=>291 | 23=>292 | 24=>293 | 25=>294 | 26=>295 | 27=>296 | 46=>342 | 47=>322 | 48=>323 | 49=>343 | 50=>344 | 57=>362 | n=>n,fun | 22=>116 | 24=>9 | 25=>212 | 3=>3 | 39=>249 | 0=>0 | 53=>92 | 55=>48 | 4=>4 | 46=>305 | 45=>304 | 50=>214 | 5=>5 | 9=>9 | 66=>351 | 70=>355 | 76=>376 | 77=>377 | n=>n,fun | n=>n⟩
theorem Tryz.laysSort06:Go.Proofs.SlLaysF0.n6 Tryz.prog Tryz.laysSort06_ren:={
 mixed:=by kernel_rfl
 f6:=⟨Tryz.f135.name,by decide,Tryz.func135.trans (aLJ)⟩
 f14:=⟨Tryz.f213.name,by decide,Tryz.func213.trans (aLJ)⟩
 f15:=Tryz.func186.trans (aLJ)
 f20:=⟨Tryz.f289.name,by decide,Tryz.func289.trans (aLJ)⟩
 f21:=⟨Tryz.f290.name,by decide,Tryz.func290.trans (aLJ)⟩
 f22:=⟨Tryz.f291.name,by decide,Tryz.func291.trans (aLJ)⟩
 f23:=⟨Tryz.f292.name,by decide,Tryz.func292.trans (aLJ)⟩
 f24:=⟨Tryz.f293.name,by decide,Tryz.func293.trans (aLJ)⟩
 f25:=⟨Tryz.f294.name,by decide,Tryz.func294.trans (aLJ)⟩
 f26:=⟨Tryz.f295.name,by decide,Tryz.func295.trans (aLJ)⟩
 f27:=⟨Tryz.f296.name,by decide,Tryz.func296.trans (aLJ)⟩
 f28:=Tryz.func259.trans (aLJ)
 f29:=Tryz.func260.trans (aLJ)
 f46:=⟨Tryz.f342.name,by decide,Tryz.func342.trans (aLJ)⟩
 f47:=Tryz.func322.trans (aLJ)
 f48:=Tryz.func323.trans (aLJ)
 f49:=⟨Tryz.f343.name,by decide,Tryz.func343.trans (aLJ)⟩
 f50:=⟨Tryz.f344.name,by decide,Tryz.func344.trans (aLJ)⟩
 f57:=⟨Tryz.f362.name,by decide,Tryz.func362.trans (aLJ)⟩
 t0:=Tryz.underlying0
 a0:=Tryz.isAgg0
 z0:=Tryz.sizeOf0
 v0:=Tryz.zeroValue0
 t3:=Tryz.underlying3
 a3:=Tryz.isAgg3
 z3:=Tryz.sizeOf3
 v3:=Tryz.zeroValue3
 t4:=Tryz.underlying4
 a4:=Tryz.isAgg4
 z4:=Tryz.sizeOf4
 v4:=Tryz.zeroValue4
 t5:=Tryz.underlying5
 a5:=Tryz.isAgg5
 z5:=Tryz.sizeOf5
 v5:=Tryz.zeroValue5
 t9:=Tryz.underlying9
 a9:=Tryz.isAgg9
 z9:=Tryz.sizeOf9
 v9:=Tryz.zeroValue9
 t22:=Tryz.underlying116
 a22:=Tryz.isAgg116
 z22:=Tryz.sizeOf116
 v22:=Tryz.zeroValue116
 t25:=Tryz.underlying212
 a25:=Tryz.isAgg212
 z25:=Tryz.sizeOf212
 v25:=Tryz.zeroValue212
 t39:=Tryz.underlying249
 a39:=Tryz.isAgg249
 z39:=Tryz.sizeOf249
 v39:=Tryz.zeroValue249
 t45:=Tryz.underlying304
 a45:=Tryz.isAgg304
 z45:=Tryz.sizeOf304
 v45:=Tryz.zeroValue304
 t46:=Tryz.underlying305
 a46:=Tryz.isAgg305
 z46:=Tryz.sizeOf305
 v46:=Tryz.zeroValue305
 t50:=Tryz.underlying214
 a50:=Tryz.isAgg214
 z50:=Tryz.sizeOf214
 v50:=Tryz.zeroValue214
 t53:=Tryz.underlying92
 a53:=Tryz.isAgg92
 z53:=Tryz.sizeOf92
 v53:=Tryz.zeroValue92
 t55:=Tryz.underlying48
 a55:=Tryz.isAgg48
 z55:=Tryz.sizeOf48
 v55:=Tryz.zeroValue48
 t66:=Tryz.underlying351
 a66:=Tryz.isAgg351
 z66:=Tryz.sizeOf351
 v66:=Tryz.zeroValue351
 t70:=Tryz.underlying355
 a70:=Tryz.isAgg355
 z70:=Tryz.sizeOf355
 v70:=Tryz.zeroValue355
 t76:=Tryz.underlying376
 a76:=Tryz.isAgg376
 z76:=Tryz.sizeOf376
 v76:=Tryz.zeroValue376
 t77:=Tryz.underlying377
 a77:=Tryz.isAgg377
 z77:=Tryz.sizeOf377
 v77:=Tryz.zeroValue377 }
open Go.RowKit Go.Lib Go.Sort in
theorem Tryz.slices_SortFunc_none{α:Type}[Inhabited α](p:Option Addr)(cap:Nat)(fv:Value)(w:World) :
 Calls Tryz.prog 135 #[.slice p 0 cap,fv] w λe w'=>e = .returned (.tuple #[])/\w'=w:=AnyF.slices_SortFunc_none Tryz.laysSort06 p cap fv w
open Go.RowKit Go.Lib Go.Sort in
theorem Tryz.slices_SortFunc_total{α:Type}[Inhabited α](enc:α->Value)(h1:OneCell enc)(cf:α->α->Int)(hO:SWO (ltOf cf))(g:Nat)(cb:Array Value)(blk off cap:Nat)(d:Array α)(w:World)(eg:∀ args w,(callFunc g args).run Tryz.prog w = .ok (.enter g args) w)(AW:CmpLays1 Tryz.prog g cb enc cf blk off d.size w)(hH:Holds enc w blk off d)(WQ:blk<w.heap.size)(al:d.size<4611686018427387904)(hT:∀ x y,(ltOf cf) x y=false->(ltOf cf) y x=false->x=y) :
 Calls Tryz.prog 135 #[.slice (some ⟨blk,off,none⟩) d.size cap,.func (.func g) #[] cb] w λe w'=>
  e = .returned (.tuple #[])/\∃ n os,w'=sortWorld enc w blk off n (d.toList.mergeSort λx y=>!(ltOf cf) y x).toArray os:=Any.slices_SortFunc_total Tryz.laysSort6 enc h1 cf hO g cb blk off cap d w eg AW hH WQ al hT
end Go.Proofs
namespace Go.Proofs.YtfnopgdcaanaiaaGreatDoor
section
open Go.RowKit
section
variable {P:Program} {ops:Array Oper} {md:Region.Mode} {C:World->Prop} {Q:Exit->Act->World->Prop}
theorem EP(a:Act)(d:Nat)(v:Value)(h:d<a.tmps.size):(a.put (some d) v).eval (.tmp d)=v:=by
 simp[Act.put,Act.eval,h]
theorem wD(a:Act)(d j:Nat)(v:Value)(h:d≠j):(a.put (some d) v).eval (.tmp j)=a.eval (.tmp j):=by
 simp[Act.put,Act.eval,h,Array.getD_eq_getD_getElem?]
structure mc(ops:Array Oper)(D:List Nat)(dst:Nat->Nat)(val:Nat->Value)(base:List (Nat×Value))(m:Nat)(ds:List Deferred)(f:Nat)(listed:Array Bool)(a:Act):Prop where
 defs:a.defers=ds
 size:listed.size=ops.size
 left:listed.toList.count false=f
 not:∀ i,i<ops.size->i∉D->listed.getD i true=false
 val:∀ i∈D,listed.getD i false=true->a.eval (.tmp (dst i))=val i
 base:∀ q∈base,a.eval (.tmp q.1)=q.2
 tmps:a.tmps.size=m
theorem mc.step{ds:List Deferred}{D:List Nat}{dst:Nat->Nat}{val:Nat->Value}{base:List (Nat×Value)}{m f:Nat}{listed:Array Bool}{a:Act}{i:Nat}{o:Oper}(hg:mc ops D dst val base m ds (f+1) listed a)(hi:i∈D)(hr:listed.getD i true=false)(ho:ops[i]?=some o)(hd:o.dst=some (dst i))(aa:dst i<m)
 (rN:∀ j∈D,j≠i->dst i≠dst j) (hb:∀ q∈base,dst i≠q.1) (hy:YieldsIn P ops C o (val i) a):qOp P ops C i (mc ops D dst val base m ds f (listed.setIfInBounds i true)) a:=by
 refine hy.qOp ho ?_;rw[hd];have Xv:i<ops.size:=(eQ.1 ho).1;have ee:i<listed.size:=by rw[hg.size];exact Xv
 have ab:listed[i]=false:=by simpa [Array.getD,ee] using hr
 refine⟨by simp[Act.put,hg.defs],by simp[hg.size],?_,?_,?_,?_,?_⟩
 ·have h1:=hg.left;rw[Array.toList_setIfInBounds,List.count_set (by simpa using ee)];simp[ab,h1]
 ·intro j hj qy;have hne:i≠j:=λe=>qy (e ▸ hi)
  have:=hg.not j hj qy
  simpa [Array.getD,hg.size,hj,Array.getElem_setIfInBounds,hne] using this
 ·intro j hj hl;by_cases hne:i=j
  ·subst hne;exact EP a _ _ (by rw[hg.tmps];exact aa)
  ·rw[wD _ _ _ _ (rN j hj (λe=>hne e.symm))];refine hg.val j hj ?_;by_cases j8:j<listed.size
   ·simpa [Array.getD,j8,Array.getElem_setIfInBounds,hne] using hl
   ·simp[Array.getD,j8] at hl
 ·intro q hq;rw[wD _ _ _ _ (hb q hq)];exact hg.base q hq
 ·simp[Act.put,hg.tmps]
theorem mc.none{ds:List Deferred}{D:List Nat}{dst:Nat->Nat}{val:Nat->Value}{base:List (Nat×Value)}{m:Nat}{listed:Array Bool}{a:Act}{p:Nat}(hp:p<ops.size)(lV:p∉D):¬ mc ops D dst val base m ds 0 listed a:=λhg=>by
 have h1:=hg.not p hp lV;have ee:p<listed.size:=by rw[hg.size];exact hp
 have ab:listed[p]=false:=by simpa [Array.getD,ee] using h1
 have h2:=hg.left;rw[List.count_eq_zero] at h2;exact h2 (by rw[<-ab];simp)
theorem mc.start{D:List Nat}{dst:Nat->Nat}{val:Nat->Value}{base:List (Nat×Value)}{m:Nat}{a:Act}(hb:∀ q∈base,a.eval (.tmp q.1)=q.2)(hm:a.tmps.size=m):mc ops D dst val base m a.defers ops.size (Array.replicate ops.size false) a:=
 ⟨rfl,by simp,by simp,λi hi _=>by simp[Array.getD,hi],λi _ h=>by simp[Array.getD] at h,hb,hm⟩
theorem aiX{listed:Array Bool}(hw:∀ (i:Nat) (o:Oper),ops[i]?=some o->∀ e∈o.after,e.on<i)(al:listed.size=ops.size):∀ p,p<ops.size->listed.getD p true=false->Region.ready md ops listed≠[]:=by
 intro p
 induction p using Nat.strongRecOn with
 | _ p ih=>
  intro hp hl;by_cases aP:∀ e∈(ops[p]).after,Region.binds md e=true->listed.getD e.on false=true
  ·intro h0
   have:p∈Region.ready md ops listed:=mem_ready.2 ⟨hl,ops[p],pQ hp,aP⟩
   rw[h0] at this
   cases this
  ·simp only[Classical.not_forall] at aP;obtain⟨e,he,hb,hne⟩:=aP;have aa:=hw p _ (pQ hp) e he;refine ih e.on aa (by omega) ?_;have h1:e.on<listed.size:=by omega
   simpa [Array.getD,h1] using hne
def Rw(ops:Array Oper):Bool:=(List.range ops.size).all λi=>match ops[i]? with
 | some o=>o.after.all λe=>decide (e.on<i)
 | none=>true
def Kn(ops:Array Oper)(D:List Nat)(p:Nat):Bool:=(List.range ops.size).all λi=>D.contains i||i == p||match ops[i]? with
 | some o=>o.after.any λe=>Region.binds .any e&&!D.contains e.on&&decide (e.on<ops.size)
 | none=>true
theorem Fc(h:Rw ops=true):∀ (i:Nat) (o:Oper),ops[i]?=some o->∀ e∈o.after,e.on<i:=by
 intro i o ho e he;unfold Rw at h;rw[List.all_eq_true] at h;have h1:=h i (by rw[List.mem_range];exact (eQ.1 ho).1);rw[ho] at h1;simp only[Array.all_eq_true_iff_forall_mem,Qa] at h1;exact h1 e he
theorem Cw{D:List Nat}{p:Nat}(h:Kn ops D p=true):∀ (i:Nat) (o:Oper),ops[i]?=some o->i∉D->i≠p->∃ e∈o.after,Region.binds .any e=true/\e.on∉D/\e.on<ops.size:=by
 intro i o ho hD hp;unfold Kn at h;rw[List.all_eq_true] at h;have h1:=h i (by rw[List.mem_range];exact (eQ.1 ho).1);rw[ho] at h1;simp only[Bool.or_eq_true,List.contains_iff_mem,hD,beq_iff_eq,hp,false_or] at h1;rw[Array.any_eq_true'] at h1;obtain⟨e,he,h2⟩:=h1;simp only[Bool.and_eq_true,Bool.not_eq_true',Qa] at h2;have h3:e.on∉D:=λhm=>by
  have:=h2.1.2
  rw[List.contains_iff_mem.2 hm] at this
  cases this
 exact⟨e,he,h2.1.1,h3,h2.2⟩
end
section
variable {P:Program} {ops:Array Oper} {Q:Exit->Act->World->Prop}
structure Held(ops:Array Oper)(D A:List Nat)(dst:Nat->Nat)(val:Nat->Value)(base:List (Nat×Value))(m:Nat)(ds:List Deferred)(f:Nat)(listed:Array Bool)(a:Act):Prop where
 good:mc ops D dst val base m ds f listed a
 done:∀ i∈A,listed.getD i false=true
 clo:∀ j o,ops[j]?=some o->listed.getD j false=true->∀ e∈o.after,Region.binds .any e=true->listed.getD e.on false=true
theorem EA{listed:Array Bool}{i j:Nat}(h:(listed.setIfInBounds i true).getD j false=true):j=i\/listed.getD j false=true:=by
 by_cases dE:i=j
 ·exact .inl dE.symm
 ·rw[getD_set_ne false dE] at h;exact .inr h
theorem uf{listed:Array Bool}{i j:Nat}(h:listed.getD j false=true):(listed.setIfInBounds i true).getD j false=true:=by
 by_cases dE:i=j
 ·subst dE;have hl:i<listed.size:=by
   by_cases hl:i<listed.size
   ·exact hl
   ·simp[Array.getD,hl] at h
  simp[Array.getD,hl]
 ·rw[getD_set_ne false dE];exact h
theorem G5{listed:Array Bool}{i:Nat}(hr:i∈Region.ready .any ops listed)(h:∀ j o,ops[j]?=some o->listed.getD j false=true->∀ e∈o.after,Region.binds .any e=true->listed.getD e.on false=true) :
 ∀ j o,ops[j]?=some o->(listed.setIfInBounds i true).getD j false=true->∀ e∈o.after,Region.binds .any e=true->(listed.setIfInBounds i true).getD e.on false=true:=λj o ho hj e he hb=>by
 refine uf ?_;rcases EA hj with rfl | hj
 ·obtain⟨_,o',ho',aP⟩:=mem_ready.1 hr;rw[ho] at ho';cases ho';exact aP e he hb
 ·exact h j o ho hj e he hb
theorem Fe{w:World}{D A:List Nat}{dst:Nat->Nat}{val:Nat->Value}{base:List (Nat×Value)}{m p:Nat}{ds:List Deferred}
 (hw:∀ (i:Nat) (o:Oper),ops[i]?=some o->∀ e∈o.after,e.on<i) (hp:p<ops.size) (lV:p∉D)
 (Jn:∀ (i:Nat) (o:Oper),ops[i]?=some o->i∉D->i≠p->∃ e∈o.after,Region.binds .any e=true/\e.on∉D/\e.on<ops.size)
 (Bb:∀ i∈D,i∉A->∃ o:Oper,ops[i]?=some o/\o.dst=some (dst i)) (aa:∀ i∈D,dst i<m) (rN:∀ i∈D,∀ j∈D,j≠i->dst i≠dst j) (pC:∀ i∈D,∀ q∈base,dst i≠q.1)
 (hy:∀ i∈D,i∉A->∀ o:Oper,ops[i]?=some o->∀ a:Act,(∀ q∈base,a.eval (.tmp q.1)=q.2)->(∀ e∈o.after,Region.binds .any e=true->e.on∈D->a.eval (.tmp (dst e.on))=val e.on)->YieldsIn P ops (λw'=>w'=w) o (val i) a)
 (AI:∀ f listed a,Held ops D A dst val base m ds (f+1) listed a->p∈Region.ready .any ops listed->wpOp P ops Q p (wpAny P .any ops Q f (listed.setIfInBounds p true)) a w) :
 ∀ f listed a,Held ops D A dst val base m ds f listed a->wpAny P .any ops Q f listed a w:=by
 intro f
 induction f with
 | zero=>intro listed a h;exact absurd h.good (mc.none hp lV)
 | succ f ih=>
  intro listed a h;have hg:=h.good;refine⟨λh0=>absurd h0 (aiX hw hg.size p hp (hg.not p hp lV)),λi hi=>?_⟩;obtain⟨hr,o,ho,aP⟩:=mem_ready.1 hi;by_cases hip:i=p
  ·subst hip;exact AI f listed a h hi
  ·have kJ:i∈D:=Decidable.byContradiction λkJ=>by
    obtain⟨e,he,vE,iU,hes⟩:=Jn i o ho kJ hip;have h1:=aP e he vE;have h2:=hg.not e.on hes iU;have h3:e.on<listed.size:=by rw[hg.size];exact hes
    simp[Array.getD,h3] at h1 h2;rw[h1] at h2
    cases h2
   have bd:i∉A:=λhA=>by
    have h1:=h.done i hA;have h3:i<listed.size:=by rw[hg.size];exact (eQ.1 ho).1
    simp[Array.getD,h3] at h1 hr;rw[h1] at hr;cases hr
   obtain⟨o',ho',hd⟩:=Bb i kJ bd;rw[ho] at ho';cases ho';have IB:∀ e∈o.after,Region.binds .any e=true->e.on∈D->a.eval (.tmp (dst e.on))=val e.on:=λe he vE hD=>hg.val _ hD (aP e he vE);have hq:=mc.step (P:=P) hg kJ hr ho hd (aa i kJ) (rN i kJ) (pC i kJ) (hy i kJ bd o ho a hg.base IB);exact wpOp_of_qOp (C:=λw'=>w'=w) rfl (λa' w' hw' h'=>by subst hw';exact ih _ a' ⟨h',λj hj=>uf (h.done j hj),G5 hi h.clo⟩) hq
theorem Held.act{D A D':List Nat}{dst:Nat->Nat}{val val':Nat->Value}{base:List (Nat×Value)}{m p f:Nat}{ds:List Deferred}{listed:Array Bool}{a:Act}{v:Value}(h:Held ops D A dst val base m ds (f+1) listed a)(hp:p∈Region.ready .any ops listed)
 (lV:p∉D) (hD:∀ i,i∉D'->i∉D/\i≠p) (hval:∀ i∈D,val' i=val i) (Jk:val' p=v) (aa:dst p<m) (rN:∀ j∈D,dst p≠dst j) (hb:∀ q∈base,dst p≠q.1) (fz:p<ops.size) :
 Held ops D' (p::A) dst val' base m ds f (listed.setIfInBounds p true) (a.put (some (dst p)) v):=by
 have hg:=h.good;have fT:=(mem_ready.1 hp).1;have ee:p<listed.size:=by rw[hg.size];exact fz
 have ab:listed[p]=false:=by simpa [Array.getD,ee] using fT
 refine⟨⟨by simp[Act.put,hg.defs],by simp[hg.size],?_,?_,?_,?_,by simp[Act.put,hg.tmps]⟩,?_,G5 hp h.clo⟩
 ·have h1:=hg.left;rw[Array.toList_setIfInBounds,List.count_set (by simpa using ee)];simp[ab,h1]
 ·intro j hj qy;obtain⟨h1,h2⟩:=hD j qy
  have:=hg.not j hj h1
  rw[getD_set_ne true (λe=>h2 e.symm)];exact this
 ·intro j hj hl;rcases EA hl with rfl | hl
  ·rw[Jk];exact EP a _ _ (by rw[hg.tmps];exact aa)
  ·have qy:j∈D:=Decidable.byContradiction λqy=>by
    by_cases Bq:j<ops.size
    ·have h1:=hg.not j Bq qy;have h3:j<listed.size:=by rw[hg.size];exact Bq
     simp[Array.getD,h3] at h1 hl;rw[h1] at hl;cases hl
    ·have h3:¬ j<listed.size:=by rw[hg.size];exact Bq
     simp[Array.getD,h3] at hl
   rw[wD _ _ _ _ (rN j qy),hval j qy];exact hg.val j qy hl
 ·intro q hq;rw[wD _ _ _ _ (hb q hq)];exact hg.base q hq
 ·intro i hi;rcases List.mem_cons.1 hi with rfl | hi
  ·simp[Array.getD,ee]
  ·exact uf (h.done i hi)
def Ex(ops:Array Oper)(p:Nat):Bool:=(List.range ops.size).all λi=>i == p||(List.range ops.size).any λj=>decide (i<j)&&match ops[j]? with
 | some o=>o.after.any λe=>Region.binds .any e&&e.on == i
 | none=>false
theorem Held.all{D A:List Nat}{dst:Nat->Nat}{val:Nat->Value}{base:List (Nat×Value)}{m p f:Nat}{ds:List Deferred}{listed:Array Bool}{a:Act}(h:Held ops D A dst val base m ds (f+1) listed a)(hp:p∈Region.ready .any ops listed)(hl:Ex ops p=true) :
 f=0/\∀ i,i<ops.size->i≠p->listed.getD i false=true:=by
 unfold Ex at hl;rw[List.all_eq_true] at hl;have key:∀ k i,ops.size - i=k->i<ops.size->i≠p->listed.getD i false=true:=by
  intro k
  induction k using Nat.strongRecOn with
  | ind k ih=>
   intro i hk his hip;have h1:=hl i (by rw[List.mem_range];exact his);simp only[Bool.or_eq_true,beq_iff_eq,hip,false_or,List.any_eq_true,List.mem_range,Bool.and_eq_true,Qa] at h1;obtain⟨j,hj,dE,h2⟩:=h1;rw[pQ hj] at h2;simp only[Array.any_eq_true',Bool.and_eq_true,beq_iff_eq] at h2;obtain⟨e,he,hb,rfl⟩:=h2;by_cases Bp:j=p
   ·subst Bp;obtain⟨_,o,ho,aP⟩:=mem_ready.1 hp;rw[pQ hj] at ho
    cases ho
    exact aP e he hb
   ·exact h.clo j _ (pQ hj) (ih (ops.size - j) (by omega) j rfl hj Bp) e he hb
 have fz:p<ops.size:=by
  obtain⟨_,o,ho,_⟩:=mem_ready.1 hp;exact (eQ.1 ho).1
 refine⟨?_,λi hi hne=>key _ i rfl hi hne⟩;have al:=h.good.size;have aSX:=h.good.left;have hc:listed.toList.count false<=1:=by
  have vY:p<listed.toList.length:=by simp[al,fz]
  have aP:∀ j (hj:j<listed.toList.length),j≠p->listed.toList[j]=true:=λj hj hne=>by
   have hj':j<listed.size:=by simpa using hj
   have:=key _ j rfl (by rw[<-al];exact hj') hne
   simpa [Array.getD,hj'] using this
  have e:listed.toList=listed.toList.take p++listed.toList[p]::listed.toList.drop (p+1):=by
   rw[<-sQ vY,List.take_append_drop]
  rw[e,List.count_append,List.count_cons];have c1:(listed.toList.take p).count false=0:=List.count_eq_zero.2 λhm=>by
   obtain⟨j,hj,rP⟩:=nQ.1 hm;rw[List.getElem_take] at rP;rw[List.length_take] at hj;rw[aP j (by omega) (by omega)] at rP
   cases rP
  have c2:(listed.toList.drop (p+1)).count false=0:=List.count_eq_zero.2 λhm=>by
   obtain⟨j,hj,rP⟩:=nQ.1 hm;rw[List.getElem_drop] at rP;rw[List.length_drop] at hj;rw[aP _ (by omega) (by omega)] at rP
   cases rP
  rw[c1,c2];split <;> omega
 omega
theorem Held.start{D:List Nat}{dst:Nat->Nat}{val:Nat->Value}{base:List (Nat×Value)}{m:Nat}{a:Act}(hb:∀ q∈base,a.eval (.tmp q.1)=q.2)(hm:a.tmps.size=m):Held ops D [] dst val base m a.defers ops.size (Array.replicate ops.size false) a:=
 ⟨mc.start hb hm,(λ_ h=>by cases h),λj o ho hj=>by simp[Array.getD] at hj⟩
end
end
section
open Go.RowKit
theorem JS{md:Region.Mode}{ops:Array Oper}{listed:Array Bool}(h:∀ i,i<ops.size->listed.getD i false=true)(hs:listed.size=ops.size):Region.ready md ops listed = []:=by
 apply List.eq_nil_iff_forall_not_mem.2;intro i hi;obtain⟨h1,o,ho,_⟩:=mem_ready.1 hi;have aa:=(eQ.1 ho).1;have h2:=h i aa;have h3:i<listed.size:=by rw[hs];exact aa
 simp[Array.getD,h3] at h1 h2;rw[h1] at h2;cases h2
def lF(a:Act):List (Nat×Value)->Act
 | []=>a
 | q::l=>lF (a.put (some q.1) q.2) l
theorem Uu{a b:Act}(hs:a.tmps.size=b.tmps.size)(hd:a.defers=b.defers)(h:∀ j,a.eval (.tmp j)=b.eval (.tmp j)):a=b:=by
 obtain⟨t,d⟩:=a;obtain⟨t',d'⟩:=b;simp only at hs hd;subst hd;congr 1;apply Array.ext hs;intro i h1 h2
 have:=h i
 simpa [Act.eval,Array.getD_eq_getD_getElem?,h1,h2] using this
theorem Qj{a a0:Act}(hs:a.tmps.size=a0.tmps.size)(hd:a.defers=a0.defers):∀ (l:List (Nat×Value)),(∀ q∈l,q.1<a0.tmps.size)->(∀ q∈l,a.eval (.tmp q.1)=q.2)->(∀ j,(∀ q∈l,q.1≠j)->a.eval (.tmp j)=a0.eval (.tmp j))->a=lF a0 l:=by
 intro l
 induction l generalizing a0 with
 | nil=>intro _ _ h;exact Uu hs hd (λj=>h j (λq hq=>by cases hq))
 | cons q l ih=>
  intro aa h1 h2;rw[lF];refine ih (by simpa [Act.put] using hs) (by simpa [Act.put] using hd) (λp hp=>by have:=aa p (mQ _ hp);simpa [Act.put] using this) (λp hp=>h1 p (mQ _ hp)) (λj hj=>?_);by_cases hq:q.1=j
  ·subst hq;rw[EP _ _ _ (aa q (by simp))];exact h1 q (by simp)
  ·rw[wD _ _ _ _ hq];refine h2 j (λp hp=>?_);rcases List.mem_cons.1 hp with rfl | hp
   ·exact hq
   ·exact hj p hp
def kZ(a0:Act)(m:Nat)(ds:List Nat):List (Nat×Value):=((List.range m).filter λj=>!ds.contains j).map λj=>(j,a0.eval (.tmp j))
theorem QC{a0:Act}{m:Nat}{ds:List Nat} : ∀ q∈kZ a0 m ds,a0.eval (.tmp q.1)=q.2:=λq hq=>by
 obtain⟨j,_,rfl⟩:=List.mem_map.1 hq;rfl
theorem qS{a0:Act}{m:Nat}{ds:List Nat}{d:Nat}(hd:d∈ds):∀ q∈kZ a0 m ds,d≠q.1:=λq hq e=>by
 obtain⟨j,hj,rfl⟩:=List.mem_map.1 hq
 have:=(List.mem_filter.1 hj).2
 simp only at e;subst e;simp[hd] at this
theorem aH{a0 a:Act}{m:Nat}{ds:List Nat}(h:∀ q∈kZ a0 m ds,a.eval (.tmp q.1)=q.2){j:Nat}(hj:j<m)(hd:j∉ds):a.eval (.tmp j)=a0.eval (.tmp j):=
 h (j,a0.eval (.tmp j)) (List.mem_map.2 ⟨j,List.mem_filter.2 ⟨List.mem_range.2 hj,by simpa using hd⟩,rfl⟩)
theorem Cy{P:Program}{c:Code}{Q:Exit->Act->World->Prop}{a:Act}{w:World}(h:∀ a0,a0=a->c.wp P Q a0 w):c.wp P Q a w:=h a rfl
variable {ops:Array Oper}
theorem Held.frame{D A:List Nat}{dst:Nat->Nat}{val:Nat->Value}{m f:Nat}{listed:Array Bool}{a a0:Act}(h:Held ops D A dst val (kZ a0 m (D.map dst)) m a0.defers f listed a)(hm:a0.tmps.size=m)(aP:∀ i∈D,listed.getD i false=true)(aa:∀ i∈D,dst i<m) :
 a=lF a0 (D.map λi=>(dst i,val i)):=by
 refine Qj (by rw[h.good.tmps,hm]) h.good.defs _ (λq hq=>?_) (λq hq=>?_) (λj hj=>?_)
 ·obtain⟨i,hi,rfl⟩:=List.mem_map.1 hq;rw[hm];exact aa i hi
 ·obtain⟨i,hi,rfl⟩:=List.mem_map.1 hq;exact h.good.val i hi (aP i hi)
 ·by_cases Bo:j<m
  ·refine aH h.good.base Bo (λhd=>?_);obtain⟨i,hi,rfl⟩:=List.mem_map.1 hd;exact hj _ (List.mem_map.2 ⟨i,hi,rfl⟩) rfl
  ·have h1:=h.good.tmps;simp[Act.eval,Array.getD_eq_getD_getElem?,h1,hm,Bo]
theorem aLY{a0 a:Act}{m:Nat}{ds:List Nat}(h:∀ q∈kZ a0 m ds,a.eval (.tmp q.1)=q.2){j:Nat}{v:Value}(e:a0.eval (.tmp j)=v)(hj:j<m:=by decide)(hd:j∉ds:=by decide):a.eval (.tmp j)=v:=(aH h hj hd).trans e
end
section
open Go.RowKit
section
variable {P:Program} {ops:Array Oper} {Q:Exit->Act->World->Prop}
theorem Qr{listed:Array Bool}(hw:∀ (i:Nat) (o:Oper),ops[i]?=some o->∀ e∈o.after,Region.binds .any e=true->e.on<i)(al:listed.size=ops.size):∀ p,p<ops.size->listed.getD p true=false->Region.ready .any ops listed≠[]:=by
 intro p
 induction p using Nat.strongRecOn with
 | _ p ih=>
  intro hp hl;by_cases aP:∀ e∈(ops[p]).after,Region.binds .any e=true->listed.getD e.on false=true
  ·intro h0
   have:p∈Region.ready .any ops listed:=mem_ready.2 ⟨hl,ops[p],pQ hp,aP⟩
   rw[h0] at this
   cases this
  ·simp only[Classical.not_forall] at aP;obtain⟨e,he,hb,hne⟩:=aP;have aa:=hw p _ (pQ hp) e he hb;refine ih e.on aa (by omega) ?_;have h1:e.on<listed.size:=by omega
   simpa [Array.getD,h1] using hne
def Ko(ops:Array Oper):Bool:=(List.range ops.size).all λi=>match ops[i]? with
 | some o=>o.after.all λe=>!Region.binds .any e||decide (e.on<i)
 | none=>true
theorem Rx(h:Ko ops=true):∀ (i:Nat) (o:Oper),ops[i]?=some o->∀ e∈o.after,Region.binds .any e=true->e.on<i:=by
 intro i o ho e he hb;unfold Ko at h;rw[List.all_eq_true] at h;have h1:=h i (by rw[List.mem_range];exact (eQ.1 ho).1);rw[ho] at h1;simp only[Array.all_eq_true_iff_forall_mem,Bool.or_eq_true,Qa,Bool.not_eq_true'] at h1;exact (h1 e he).resolve_left (by rw[hb];simp)
theorem aDZ{w:World}{D A:List Nat}{dst:Nat->Nat}{val:Nat->Value}{base:List (Nat×Value)}{m p:Nat}{ds:List Deferred}
 (hw:∀ (i:Nat) (o:Oper),ops[i]?=some o->∀ e∈o.after,Region.binds .any e=true->e.on<i) (hp:p<ops.size) (lV:p∉D)
 (Jn:∀ (i:Nat) (o:Oper),ops[i]?=some o->i∉D->i≠p->∃ e∈o.after,Region.binds .any e=true/\e.on∉D/\e.on<ops.size)
 (Bb:∀ i∈D,i∉A->∃ o:Oper,ops[i]?=some o/\o.dst=some (dst i)) (aa:∀ i∈D,dst i<m) (rN:∀ i∈D,∀ j∈D,j≠i->dst i≠dst j) (pC:∀ i∈D,∀ q∈base,dst i≠q.1)
 (hy:∀ i∈D,i∉A->∀ o:Oper,ops[i]?=some o->∀ a:Act,(∀ q∈base,a.eval (.tmp q.1)=q.2)->(∀ e∈o.after,Region.binds .any e=true->e.on∈D->a.eval (.tmp (dst e.on))=val e.on)->YieldsIn P ops (λw'=>w'=w) o (val i) a)
 (AI:∀ f listed a,Held ops D A dst val base m ds (f+1) listed a->p∈Region.ready .any ops listed->wpOp P ops Q p (wpAny P .any ops Q f (listed.setIfInBounds p true)) a w) :
 ∀ f listed a,Held ops D A dst val base m ds f listed a->wpAny P .any ops Q f listed a w:=by
 intro f
 induction f with
 | zero=>intro listed a h;exact absurd h.good (mc.none hp lV)
 | succ f ih=>
  intro listed a h;have hg:=h.good;refine⟨λh0=>absurd h0 (Qr hw hg.size p hp (hg.not p hp lV)),λi hi=>?_⟩;obtain⟨hr,o,ho,aP⟩:=mem_ready.1 hi;by_cases hip:i=p
  ·subst hip;exact AI f listed a h hi
  ·have kJ:i∈D:=Decidable.byContradiction λkJ=>by
    obtain⟨e,he,vE,iU,hes⟩:=Jn i o ho kJ hip;have h1:=aP e he vE;have h2:=hg.not e.on hes iU;have h3:e.on<listed.size:=by rw[hg.size];exact hes
    simp[Array.getD,h3] at h1 h2;rw[h1] at h2
    cases h2
   have bd:i∉A:=λhA=>by
    have h1:=h.done i hA;have h3:i<listed.size:=by rw[hg.size];exact (eQ.1 ho).1
    simp[Array.getD,h3] at h1 hr;rw[h1] at hr;cases hr
   obtain⟨o',ho',hd⟩:=Bb i kJ bd;rw[ho] at ho';cases ho';have IB:∀ e∈o.after,Region.binds .any e=true->e.on∈D->a.eval (.tmp (dst e.on))=val e.on:=λe he vE hD=>hg.val _ hD (aP e he vE);have hq:=mc.step (P:=P) hg kJ hr ho hd (aa i kJ) (rN i kJ) (pC i kJ) (hy i kJ bd o ho a hg.base IB);exact wpOp_of_qOp (C:=λw'=>w'=w) rfl (λa' w' hw' h'=>by subst hw';exact ih _ a' ⟨h',λj hj=>uf (h.done j hj),G5 hi h.clo⟩) hq
def JW(ops:Array Oper)(R:List Nat)(p:Nat):Bool:=(List.range ops.size).all λi=>i == p||R.contains i||(List.range ops.size).any λj=>decide (i<j)&&!R.contains j&&match ops[j]? with
 | some o=>o.after.any λe=>Region.binds .any e&&e.on == i
 | none=>false
theorem Held.most{D A R:List Nat}{dst:Nat->Nat}{val:Nat->Value}{base:List (Nat×Value)}{m p f:Nat}{ds:List Deferred}{listed:Array Bool}{a:Act}(h:Held ops D A dst val base m ds (f+1) listed a)(hp:p∈Region.ready .any ops listed)(hl:JW ops R p=true) :
 ∀ i,i<ops.size->i≠p->i∉R->listed.getD i false=true:=by
 unfold JW at hl;rw[List.all_eq_true] at hl;have key:∀ k i,ops.size - i=k->i<ops.size->i≠p->i∉R->listed.getD i false=true:=by
  intro k
  induction k using Nat.strongRecOn with
  | ind k ih=>
   intro i hk his hip tC;have h1:=hl i (by rw[List.mem_range];exact his);simp only[Bool.or_eq_true,beq_iff_eq,hip,List.contains_iff_mem,tC,false_or,List.any_eq_true,List.mem_range,Bool.and_eq_true,Qa,Bool.not_eq_true'] at h1;obtain⟨j,hj,⟨dE,D7⟩,h2⟩:=h1;have D7:j∉R:=λe=>by rw[List.contains_iff_mem.2 e] at D7;cases D7
   rw[pQ hj] at h2;simp only[Array.any_eq_true',Bool.and_eq_true,beq_iff_eq] at h2;obtain⟨e,he,hb,rfl⟩:=h2;by_cases Bp:j=p
   ·subst Bp;obtain⟨_,o,ho,aP⟩:=mem_ready.1 hp;rw[pQ hj] at ho
    cases ho
    exact aP e he hb
   ·exact h.clo j _ (pQ hj) (ih (ops.size - j) (by omega) j rfl hj Bp D7) e he hb
 exact λi hi hne hR=>key _ i rfl hi hne hR
structure Rest(ops:Array Oper)(R D:List Nat)(dst:Nat->Nat)(val:Nat->Value)(base:List (Nat×Value))(m:Nat)(ds:List Deferred)(f:Nat)(listed:Array Bool)(a:Act):Prop where
 defs:a.defers=ds
 size:listed.size=ops.size
 left:listed.toList.count false=f
 val:∀ i∈D,listed.getD i false=true->a.eval (.tmp (dst i))=val i
 base:∀ q∈base,a.eval (.tmp q.1)=q.2
 tmps:a.tmps.size=m
 out:∀ i,i<ops.size->i∉R->listed.getD i false=true
theorem Held.rest{D A R:List Nat}{dst:Nat->Nat}{val:Nat->Value}{base:List (Nat×Value)}{m p f:Nat}{ds:List Deferred}{listed:Array Bool}{a:Act}(h:Held ops D A dst val base m ds (f+1) listed a)(hp:p∈Region.ready .any ops listed)(lV:p∉D)(hl:JW ops R p=true) :
 Rest ops R D dst val base m ds f (listed.setIfInBounds p true) a:=by
 have hg:=h.good;obtain⟨fT,o,ho,_⟩:=mem_ready.1 hp;have fz:p<ops.size:=(eQ.1 ho).1;have ee:p<listed.size:=by rw[hg.size];exact fz
 have ab:listed[p]=false:=by simpa [Array.getD,ee] using fT
 refine⟨hg.defs,by simp[hg.size],?_,λi hi hl=>?_,hg.base,hg.tmps,λi hi hR=>?_⟩
 ·have h1:=hg.left;rw[Array.toList_setIfInBounds,List.count_set (by simpa using ee)];simp[ab,h1]
 ·rcases EA hl with rfl | hl
  ·exact absurd hi lV
  ·exact hg.val i hi hl
 ·by_cases hip:i=p
  ·subst hip;simp[Array.getD,ee]
  ·exact uf (h.most hp hl i hi hip hR)
theorem aDJ{w:World}{R D:List Nat}{dst:Nat->Nat}{val:Nat->Value}{a0:Act}{m:Nat}(hm:a0.tmps.size=m)
 (hw:∀ (i:Nat) (o:Oper),ops[i]?=some o->∀ e∈o.after,Region.binds .any e=true->e.on<i) (Ib:∀ i∈R,i∈D) (Wu:∀ i∈D,i<ops.size)
 (Bb:∀ i∈R,∃ o:Oper,ops[i]?=some o/\o.dst=some (dst i)) (aa:∀ i∈D,dst i<m) (rN:∀ i∈D,∀ j∈D,j≠i->dst i≠dst j) (hrel:∀ i∈R,∀ o:Oper,ops[i]?=some o->∀ e∈o.after,Region.binds .any e=true->e.on∈D)
 (hy:∀ i∈R,∀ o:Oper,ops[i]?=some o->∀ a:Act,(∀ e∈o.after,Region.binds .any e=true->a.eval (.tmp (dst e.on))=val e.on)->YieldsIn P ops (λw'=>w'=w) o (val i) a)
 (rI:Q .normal (lF a0 (D.map λi=>(dst i,val i))) w) :
 ∀ f listed a,Rest ops R D dst val (kZ a0 m (D.map dst)) m a0.defers f listed a->wpAny P .any ops Q f listed a w:=by
 intro f
 induction f with
 | zero=>
  intro listed a h;have aP:∀ i,i<ops.size->listed.getD i false=true:=λi hi=>by
   have h1:=h.left;have ee:i<listed.size:=by rw[h.size];exact hi
   rw[List.count_eq_zero] at h1
   cases hb:listed[i] with
   | true=>simp[Array.getD,ee,hb]
   | false=>exact absurd (by rw[<-hb];simp) h1
  refine⟨JS aP h.size,?_⟩;have e:a=lF a0 (D.map λi=>(dst i,val i)):=by
   refine Qj (by rw[h.tmps,hm]) h.defs _ (λq hq=>?_) (λq hq=>?_) (λj hj=>?_)
   ·obtain⟨i,hi,rfl⟩:=List.mem_map.1 hq;rw[hm];exact aa i hi
   ·obtain⟨i,hi,rfl⟩:=List.mem_map.1 hq;exact h.val i hi (aP i (Wu i hi))
   ·by_cases Bo:j<m
    ·refine aH h.base Bo (λhd=>?_);obtain⟨i,hi,rfl⟩:=List.mem_map.1 hd;exact hj _ (List.mem_map.2 ⟨i,hi,rfl⟩) rfl
    ·have h1:=h.tmps;simp[Act.eval,Array.getD_eq_getD_getElem?,h1,hm,Bo]
  rw[e];exact rI
 | succ f ih=>
  intro listed a h;refine⟨λh0=>?_,λi hi=>?_⟩
  ·have h1:=h.left;have h2:false∈listed.toList:=by rw[<-List.count_pos_iff];omega
   obtain⟨i,hi,he⟩:=nQ.1 h2;have ee:i<listed.size:=by simpa using hi
   exact absurd h0 (Qr hw h.size i (by rw[<-h.size];exact ee) (by simpa [Array.getD,ee] using he))
  ·obtain⟨hr,o,ho,aP⟩:=mem_ready.1 hi;have Oj:=(eQ.1 ho).1;have ee:i<listed.size:=by rw[h.size];exact Oj
   have tC:i∈R:=Decidable.byContradiction λhR=>by
    have h1:=h.out i Oj hR;simp[Array.getD,ee] at h1 hr;rw[h1] at hr;cases hr
   have ab:listed[i]=false:=by simpa [Array.getD,ee] using hr
   obtain⟨o',ho',hd⟩:=Bb i tC;rw[ho] at ho';cases ho';have hq:qOp P ops (λw'=>w'=w) i (Rest ops R D dst val (kZ a0 m (D.map dst)) m a0.defers f (listed.setIfInBounds i true)) a:=by
    refine (hy i tC o ho a (λe he hb=>h.val _ (hrel i tC o ho e he hb) (aP e he hb))).qOp ho ?_;rw[hd];refine⟨by simp[Act.put,h.defs],by simp[h.size],?_,λj hj hl=>?_,λq hq=>?_,by simp[Act.put,h.tmps],λj hj hR=>uf (h.out j hj hR)⟩
    ·have h1:=h.left;rw[Array.toList_setIfInBounds,List.count_set (by simpa using ee)];simp[ab,h1]
    ·by_cases hne:i=j
     ·subst hne;exact EP a _ _ (by rw[h.tmps];exact aa i (Ib i tC))
     ·rw[wD _ _ _ _ (rN i (Ib i tC) j hj (λe=>hne e.symm))];refine h.val j hj ?_;rcases EA hl with rfl | hl
      ·exact absurd rfl hne
      ·exact hl
    ·rw[wD _ _ _ _ (qS (List.mem_map.2 ⟨i,Ib i tC,rfl⟩) q hq)];exact h.base q hq
   exact wpOp_of_qOp (C:=λw'=>w'=w) rfl (λa' w' hw' h'=>by subst hw';exact ih _ a' h') hq
end
section
variable {P:Program} {ops:Array Oper} {Q:Exit->Act->World->Prop}
end
section
variable {P:Program} {ops:Array Oper} {Q:Exit->Act->World->Prop}
def stB(ops:Array Oper)(ord D A:List Nat)(p:Nat)(dst:Nat->Nat):Bool:=
 Ko ops&&Kn ops D p&&decide (p<ops.size)&&!D.contains p&&D.all λi=>ord.contains i&&(A.contains i||match ops[i]? with
  | some o=>o.dst == some (dst i)
  | none=>false)
def MT(ops:Array Oper)(D:List Nat)(p k:Nat):Bool:=D.contains k&&match ops[p]? with
 | some o=>o.after.any λe=>Region.binds .any e&&e.on == k
 | none=>false
theorem gM{w:World}{ord D A:List Nat}{dst:Nat->Nat}{val:Nat->Value}{a0:Act}{m:Nat}(p:Nat){dsts:List Nat}{ds:List Deferred}{f:Nat}{listed:Array Bool}{a:Act}
 (h1:∀ i∈ord,dst i<m/\dst i∈dsts) (h2:∀ i∈ord,∀ j∈ord,j≠i->dst i≠dst j)
 (h:Held ops D A dst val (kZ a0 m dsts) m ds f listed a) (hB:stB ops ord D A p dst=true)
 (hy:∀ i∈D,i∉A->∀ o:Oper,ops[i]?=some o->∀ a:Act,(∀ q∈kZ a0 m dsts,a.eval (.tmp q.1)=q.2)->(∀ e∈o.after,Region.binds .any e=true->e.on∈D->a.eval (.tmp (dst e.on))=val e.on)->YieldsIn P ops (λw'=>w'=w) o (val i) a)
 (AI:∀ f listed a,Held ops D A dst val (kZ a0 m dsts) m ds (f+1) listed a->p∈Region.ready .any ops listed->((k:Nat)->(_:MT ops D p k=true:=by kernel_rfl)->a.eval (.tmp (dst k))=val k)->wpOp P ops Q p (wpAny P .any ops Q f (listed.setIfInBounds p true)) a w) :
 wpAny P .any ops Q f listed a w:=by
 simp only[stB,Bool.and_eq_true,Qa,Bool.not_eq_true',List.all_eq_true,List.contains_iff_mem,Bool.or_eq_true] at hB;obtain⟨⟨⟨⟨b1,b2⟩,b3⟩,b4⟩,b5⟩:=hB;have lV:p∉D:=λe=>by rw[List.contains_iff_mem.2 e] at b4;cases b4
 refine aDZ (Rx b1) b3 lV (Cw b2) (λi hi hA=>?_) (λi hi=>(h1 i (b5 i hi).1).1) (λi hi j hj=>h2 i (b5 i hi).1 j (b5 j hj).1) (λi hi=>qS (h1 i (b5 i hi).1).2) hy (λf listed a hH hr=>AI f listed a hH hr (λk hk=>?_)) f listed a h
 ·have:=(b5 i hi).2.resolve_left hA
  cases ho:ops[i]? with
  | none=>rw[ho] at this;cases this
  | some o=>rw[ho] at this;exact⟨o,rfl,by simpa using this⟩
 ·obtain⟨_,o,ho,aP⟩:=mem_ready.1 hr;simp only[MT,ho,Bool.and_eq_true,List.contains_iff_mem] at hk;obtain⟨XF,hk⟩:=hk;rw[Array.any_eq_true'] at hk;obtain⟨e,he,h3⟩:=hk;simp only[Bool.and_eq_true,beq_iff_eq] at h3;obtain⟨h4,rfl⟩:=h3;exact hH.good.val _ XF (aP e he h4)
theorem tx{D:List Nat}{dst:Nat->Nat}{val:Nat->Value}{m:Nat}{dsts:List Nat}{a:Act}(hm:a.tmps.size=m):Held ops D [] dst val (kZ a m dsts) m a.defers ops.size (Array.replicate ops.size false) a:=Held.start (λq hq=>QC q hq) hm
def nxB(ops:Array Oper)(ord D D':List Nat)(p:Nat):Bool:=ord.contains p&&decide (p<ops.size)&&!D.contains p&&D'.contains p&&D.all λi=>D'.contains i&&ord.contains i
theorem Held.next{ord D A D':List Nat}{dst:Nat->Nat}{val val':Nat->Value}{a0:Act}{m p f:Nat}{dsts:List Nat}{ds:List Deferred}{listed:Array Bool}{a:Act}{v:Value}(h:Held ops D A dst val (kZ a0 m dsts) m ds (f+1) listed a)
 (h1:∀ i∈ord,dst i<m/\dst i∈dsts) (h2:∀ i∈ord,∀ j∈ord,j≠i->dst i≠dst j) (hp:p∈Region.ready .any ops listed) (Jk:val' p=v:=by rfl) (hB:nxB ops ord D D' p=true:=by kernel_rfl)
 (hval:∀ i∈D,val' i=val i:=by intro i hi;(repeat' (rcases hi with _ | ⟨_,hi⟩)) <;> rfl) :
 Held ops D' (p::A) dst val' (kZ a0 m dsts) m ds f (listed.setIfInBounds p true) (a.put (some (dst p)) v):=by
 simp only[nxB,Bool.and_eq_true,Qa,Bool.not_eq_true',List.all_eq_true,List.contains_iff_mem] at hB;obtain⟨⟨⟨⟨b1,b2⟩,b3⟩,b4⟩,b5⟩:=hB;have lV:p∉D:=λe=>by rw[List.contains_iff_mem.2 e] at b3;cases b3
 exact h.act hp lV (λi hi=>⟨λe=>hi (b5 i e).1,λe=>hi (e ▸ b4)⟩) hval Jk (h1 p b1).1 (λj hj=>h2 p b1 j (b5 j hj).2 (λe=>lV (e ▸ hj))) (qS (h1 p b1).2) b2
theorem wT{w:World}{D A:List Nat}{dst:Nat->Nat}{val:Nat->Value}{a0 a b:Act}{m p f:Nat}{dsts:List Nat}{listed:Array Bool}(h:Held ops D A dst val (kZ a0 m (D.map dst)) m a0.defers (f+1) listed a)(hp:p∈Region.ready .any ops listed)(hm:a0.tmps.size=m)
 (h1:∀ i∈D,dst i<m/\dst i∈dsts) (hl:(Ex ops p&&D.all λi=>decide (i<ops.size)&&i != p)=true) (rI:a=lF a0 (D.map λi=>(dst i,val i))->Q .normal b w):wpAny P .any ops Q f (listed.setIfInBounds p true) b w:=by
 simp only[Bool.and_eq_true,List.all_eq_true,Qa,bne_iff_ne] at hl;obtain⟨rfl,qz⟩:=h.all hp hl.1;have hG:=h.good;have hf:=Held.frame h hm (λi hi=>qz i (hl.2 i hi).1 (hl.2 i hi).2) (λi hi=>(h1 i hi).1);refine⟨JS (λi hi=>?_) (by rw[Array.size_setIfInBounds];exact hG.size),?_⟩
 ·by_cases hip:i=p
  ·subst hip;have hs:i<listed.size:=by rw[hG.size];exact hi
   simp[Array.getD,hs]
  ·exact uf (qz i hi hip)
 ·exact rI hf
theorem gE{A B:Prop}{w:World}{R:World->Prop}(h:A)(k:R w):(A/\∀ w',w'=w->R w')\/B:=.inl ⟨h,λw' e=>e ▸ k⟩
end
def Rq(e:Nat->Value)(p:Nat)(v:Value)(i:Nat):Value:=if i=p then v else e i
section
variable {P:Program} {ops:Array Oper} {Q:Exit->Act->World->Prop}
structure InvS(ops:Array Oper)(ord T:List Nat)(p0 m:Nat)(dep:Nat->List Nat)(dst:Nat->Nat):Prop where
 well:∀ (i:Nat) (o:Oper),ops[i]?=some o->∀ e∈o.after,e.on<i
 p0s:p0<ops.size
 p0o:p0∉ord
 last:Ex ops p0=true
 all:∀ i,i<ops.size->i=p0\/i∈ord
 tord:∀ p∈T,p∈ord/\dep p = [p]
 depT:∀ i∈ord,∀ j∈dep i,j∈T
 size:∀ i∈ord,i<ops.size
 qdst:∀ i∈ord,i∉T->∃ o,ops[i]?=some o/\o.dst=some (dst i)
 qon:∀ i∈ord,i∉T->∀ o,ops[i]?=some o->∀ j∈dep i,∃ e∈o.after,Region.binds .any e=true/\j∈dep e.on/\e.on<ops.size
 qall:∀ i∈ord,i∉T->∀ o,ops[i]?=some o->∀ e∈o.after,Region.binds .any e=true->e.on∈ord/\∀ j∈dep e.on,j∈dep i
 p0on:∀ o,ops[p0]?=some o->∀ j∈T,∃ e∈o.after,Region.binds .any e=true/\j∈dep e.on/\e.on<ops.size
 lt:∀ i∈ord,dst i<m
 inj:∀ i∈ord,∀ j∈ord,j≠i->dst i≠dst j
end
end
namespace Np
def aX(l:List Span):List Int:=l.flatMap λs=>[s.frm,s.til]
def mrg:List Int->List Int->Bool->Bool->List (Int×Bool×Bool)
 | [],[],_,_=>[]
 | x::xs,[],p,q=>(x,!p,q)::mrg xs [] (!p) q
 | [],y::ys,p,q=>(y,p,!q)::mrg [] ys p (!q)
 | x::xs,y::ys,p,q=>if x<y then (x,!p,q)::mrg xs (y::ys) (!p) q else if y<x then (y,p,!q)::mrg (x::xs) ys p (!q) else (x,!p,!q)::mrg xs ys (!p) (!q)
termination_by xs ys=>xs.length+ys.length
def fX(o:List Span×Int)(e:Int×Bool×Bool):List Span×Int:=
 if e.2.1&&!e.2.2 then (if o.2<0 then (o.1,e.1) else o) else (if 0<=o.2 then (o.1 ++ [⟨o.2,e.1⟩],-1) else o)
def sH(a b:List Span):List Span:=((mrg (aX a) (aX b) false false).foldl fX ([],-1)).1
def inF:List Int->Bool->Int->Bool
 | [],p,_=>p
 | x::xs,p,t=>if t<x then p else inF xs (!p) t
def tb(t0:Int):List Int->Prop
 | []=>True
 | x::xs=>t0<x/\tb x xs
def yI:List Int->Bool->Bool
 | [],p=>p
 | _::xs,p=>yI xs (!p)
theorem tb.weak{t0 t1:Int} : ∀ {l:List Int},tb t1 l->t0<=t1->tb t0 l
 | [],_,_=>trivial
 | _::_,h,ht=>⟨Int.lt_of_le_of_lt ht h.1,h.2⟩
theorem YN{p:Bool} : ∀ {l:List Int} {t0 t:Int},tb t0 l->t<=t0->inF l p t=p
 | [],_,_,_,_=>rfl
 | x::xs,t0,t,h,ht=>by rw[inF,Qb (by have:=h.1;omega)]
theorem ud{p:Bool}{x:Int}{xs:List Int}{t:Int}(h:x<=t):inF (x::xs) p t=inF xs (!p) t:=by rw[inF,Qc (by omega)]
theorem qI{p:Bool}{x:Int}{xs:List Int}{t:Int}(h:t<x):inF (x::xs) p t=p:=by rw[inF,Qb h]
structure SwOk(o:List Span×Int)(t0:Int)(p q:Bool):Prop where
 ap:ApartS o.1
 til:∀ s∈o.1,s.til<=t0
 lt:0<=o.2->∀ s∈o.1,s.til<o.2
 none:o.2<0->o.2 = -1
 opens:0<=o.2↔(p&&!q)=true
 le:o.2<=t0
theorem De{l:List Span}{s:Span}(h:ApartS l)(hs:s.frm<s.til)(hl:∀ x∈l,x.til<s.frm):ApartS (l ++ [s]):=by
 refine⟨λx hx=>?_,List.pairwise_append.2 ⟨h.apart,List.pairwise_singleton _ _,λx hx y hy=>?_⟩⟩
 ·rcases List.mem_append.1 hx with hx | hx
  ·exact h.full x hx
  ·rw[List.mem_singleton] at hx;subst hx;exact hs
 ·rw[List.mem_singleton] at hy;subst hy;exact hl x hx
theorem Ev{s:Span}{t:Int} : inS [s] t↔s.frm<=t/\t<s.til:=⟨λ⟨x,hx,h⟩=>by rw[List.mem_singleton] at hx;subst hx;exact h,λh=>⟨s,by simp,h⟩⟩
theorem Cp{o:List Span×Int}{t0 t:Int}{p q p' q':Bool}(h:SwOk o t0 p q)(ht:t0<t)(h0:0<=t):SwOk (fX o (t,p',q')) t p' q'/\
 ∀ u,(inS (fX o (t,p',q')).1 u\/(0<=(fX o (t,p',q')).2/\(fX o (t,p',q')).2<=u/\u<t))↔(inS o.1 u\/(0<=o.2/\o.2<=u/\u<t)):=by
 obtain⟨out,f⟩:=o;obtain⟨h1,h2,h3,h4,h5,h6⟩:=h;simp only at h1 h2 h3 h4 h5 h6 |-;unfold fX;simp only;by_cases hn:(p'&&!q')=true
 ·rw[Qb hn];by_cases hf:f<0
  ·rw[Qb hf];exact⟨⟨h1,λs hs=>by have:=h2 s hs;omega,λ_ s hs=>by have:=h2 s hs;show s.til<t;omega,λhx=>by exfalso;have hx:t<0:=hx;omega,⟨λ_=>hn,λ_=>h0⟩,Int.le_refl _⟩,λu=>by simp only;constructor <;> (rintro (h | h) <;> first | exact .inl h | (exfalso;omega))⟩
  ·rw[Qc hf];exact⟨⟨h1,λs hs=>by have:=h2 s hs;omega,h3,h4,⟨λ_=>hn,λ_=>by show 0<=f;omega⟩,by show f<=t;omega⟩,λu=>Iff.rfl⟩
 ·rw[Qc hn];by_cases hf:0<=f
  ·rw[Qb hf];refine⟨⟨De h1 (by simp only;omega) (λs hs=>h3 hf s hs),λs hs=>?_,λhx=>by simp only at hx;omega,λ_=>rfl,⟨λhx=>by simp only at hx;omega,λhx=>absurd hx hn⟩,by simp only;omega⟩,λu=>?_⟩
   ·rcases List.mem_append.1 hs with hs | hs
    ·have:=h2 s hs;omega
    ·rw[List.mem_singleton] at hs;subst hs;exact Int.le_refl _
   ·simp only[qJ,Ev];constructor
    ·rintro ((h | h) | h)
     ·exact .inl h
     ·exact .inr ⟨hf,h⟩
     ·omega
    ·rintro (h | h)
     ·exact .inl (.inl h)
     ·exact .inl (.inr h.2)
  ·rw[Qc hf];exact⟨⟨h1,λs hs=>by have:=h2 s hs;omega,h3,h4,⟨λhx=>absurd hx hf,λhx=>absurd hx hn⟩,by simp only;omega⟩,λu=>Iff.rfl⟩
def xR(o:List Span×Int)(t0:Int)(xs ys:List Int)(p q:Bool)(u:Int):Prop:=inS o.1 u\/(0<=o.2/\o.2<=u/\u<t0)\/(t0<=u/\inF xs p u=true/\inF ys q u=false)
theorem B6{o o':List Span×Int}{t0 t:Int}{xs ys xs' ys':List Int}{p q p' q':Bool}(hk:SwOk o t0 p q)(ht:t0<t)
 (hx:∀ u,t0<=u->u<t->inF xs p u=p/\inF ys q u=q) (hx':∀ u,t<=u->inF xs p u=inF xs' p' u/\inF ys q u=inF ys' q' u)
 (hs:∀ u,(inS o'.1 u\/(0<=o'.2/\o'.2<=u/\u<t))↔(inS o.1 u\/(0<=o.2/\o.2<=u/\u<t))) (u:Int):xR o' t xs' ys' p' q' u↔xR o t0 xs ys p q u:=by
 have ho:=hk.opens;have eV:=hk.le;have key:(inS o.1 u\/(0<=o.2/\o.2<=u/\u<t))↔(inS o.1 u\/(0<=o.2/\o.2<=u/\u<t0)\/(t0<=u/\u<t/\(p&&!q)=true)):=by
  constructor
  ·rintro (h | ⟨h1,h2,h3⟩)
   ·exact .inl h
   ·by_cases hu:u<t0
    ·exact .inr (.inl ⟨h1,h2,hu⟩)
    ·exact .inr (.inr ⟨by omega,h3,ho.1 h1⟩)
  ·rintro (h | ⟨h1,h2,h3⟩ | ⟨h1,h2,h3⟩)
   ·exact .inl h
   ·exact .inr ⟨h1,h2,by omega⟩
   ·exact .inr ⟨ho.2 h3,by omega,h2⟩
 unfold xR;rw[<-or_assoc,hs u,key];constructor
 ·rintro ((h | h | ⟨h1,h2,h3⟩) | ⟨h1,h2,h3⟩)
  ·exact .inl h
  ·exact .inr (.inl h)
  ·obtain⟨e1,e2⟩:=hx u h1 h2;simp only[Bool.and_eq_true,Bool.not_eq_true'] at h3;exact .inr (.inr ⟨h1,by rw[e1];exact h3.1,by rw[e2];exact h3.2⟩)
  ·obtain⟨e1,e2⟩:=hx' u h1;exact .inr (.inr ⟨by omega,by rw[e1];exact h2,by rw[e2];exact h3⟩)
 ·rintro (h | h | ⟨h1,h2,h3⟩)
  ·exact .inl (.inl h)
  ·exact .inl (.inr (.inl h))
  ·by_cases hu:u<t
   ·obtain⟨e1,e2⟩:=hx u h1 hu;rw[e1] at h2;rw[e2] at h3;exact .inl (.inr (.inr ⟨h1,hu,by rw[h2,h3];rfl⟩))
   ·obtain⟨e1,e2⟩:=hx' u (by omega);rw[e1] at h2;rw[e2] at h3;exact .inr ⟨by omega,h2,h3⟩
theorem awX:∀ (n:Nat) (xs ys:List Int) (p q:Bool) (o:List Span×Int) (t0:Int),xs.length+ys.length<=n->-1<=t0->tb t0 xs->tb t0 ys->SwOk o t0 p q->
 ∃ t1,SwOk ((mrg xs ys p q).foldl fX o) t1 (yI xs p) (yI ys q)/\∀ u,(inS ((mrg xs ys p q).foldl fX o).1 u\/(0<=((mrg xs ys p q).foldl fX o).2/\((mrg xs ys p q).foldl fX o).2<=u))↔xR o t0 xs ys p q u:=by
 intro n
 induction n with
 | zero=>
  intro xs ys p q o t0 hn ht hx hy hk;obtain rfl:xs = []:=rQ (by omega);obtain rfl:ys = []:=rQ (by omega);rw[mrg];refine⟨t0,hk,λu=>?_⟩;simp only[List.foldl_nil,xR,inF];have ho:=hk.opens;have eV:=hk.le;constructor
  ·rintro (h | ⟨h1,h2⟩)
   ·exact .inl h
   ·by_cases hu:u<t0
    ·exact .inr (.inl ⟨h1,h2,hu⟩)
    ·have:=ho.1 h1
     simp only[Bool.and_eq_true,Bool.not_eq_true'] at this;exact .inr (.inr ⟨by omega,this.1,this.2⟩)
  ·rintro (h | ⟨h1,h2,h3⟩ | ⟨h1,h2,h3⟩)
   ·exact .inl h
   ·exact .inr ⟨h1,h2⟩
   ·have h4:=ho.2 (by rw[h2,h3];rfl);exact .inr ⟨h4,by omega⟩
 | succ n ih=>
  intro xs ys p q o t0 hn ht hx hy hk
  match xs,ys,hn,hx,hy with
  | [],[],hn,hx,hy=>exact ih [] [] p q o t0 (by simp) ht trivial trivial hk
  | x::xs,[],hn,hx,hy=>
   rw[mrg,List.foldl_cons];obtain⟨h1,h2⟩:=Cp (p':=!p) (q':=q) hk hx.1 (by have:=hx.1;omega);obtain⟨t1,k1,k2⟩:=ih xs [] (!p) q _ x (by simp only[List.length_cons,List.length_nil] at hn |-;omega) (by have:=hx.1;omega) hx.2 trivial h1;refine⟨t1,k1,λu=>(k2 u).trans (B6 hk hx.1 (λu _ hu=>⟨qI hu,rfl⟩) (λu hu=>⟨ud hu,rfl⟩) h2 u)⟩
  | [],y::ys,hn,hx,hy=>
   rw[mrg,List.foldl_cons];obtain⟨h1,h2⟩:=Cp (p':=p) (q':=!q) hk hy.1 (by have:=hy.1;omega);obtain⟨t1,k1,k2⟩:=ih [] ys p (!q) _ y (by simp only[List.length_cons,List.length_nil] at hn |-;omega) (by have:=hy.1;omega) trivial hy.2 h1;refine⟨t1,k1,λu=>(k2 u).trans (B6 hk hy.1 (λu _ hu=>⟨rfl,qI hu⟩) (λu hu=>⟨rfl,ud hu⟩) h2 u)⟩
  | x::xs,y::ys,hn,hx,hy=>
   rw[mrg];by_cases bZ:x<y
   ·rw[Qb bZ,List.foldl_cons];obtain⟨h1,h2⟩:=Cp (p':=!p) (q':=q) hk hx.1 (by have:=hx.1;omega);obtain⟨t1,k1,k2⟩:=ih xs (y::ys) (!p) q _ x (by simp only[List.length_cons] at hn |-;omega) (by have:=hx.1;omega) hx.2 ⟨bZ,hy.2⟩ h1;refine⟨t1,k1,λu=>(k2 u).trans (B6 hk hx.1 (λu _ hu=>⟨qI hu,qI (by omega)⟩) (λu hu=>⟨ud hu,rfl⟩) h2 u)⟩
   ·rw[Qc bZ];by_cases Jv:y<x
    ·rw[Qb Jv,List.foldl_cons];obtain⟨h1,h2⟩:=Cp (p':=p) (q':=!q) hk hy.1 (by have:=hy.1;omega);obtain⟨t1,k1,k2⟩:=ih (x::xs) ys p (!q) _ y (by simp only[List.length_cons] at hn |-;omega) (by have:=hy.1;omega) ⟨Jv,hx.2⟩ hy.2 h1;refine⟨t1,k1,λu=>(k2 u).trans (B6 hk hy.1 (λu _ hu=>⟨qI (by omega),qI hu⟩) (λu hu=>⟨rfl,ud hu⟩) h2 u)⟩
    ·rw[Qc Jv,List.foldl_cons];obtain rfl:x=y:=by omega
     obtain⟨h1,h2⟩:=Cp (p':=!p) (q':=!q) hk hx.1 (by have:=hx.1;omega);obtain⟨t1,k1,k2⟩:=ih xs ys (!p) (!q) _ x (by simp only[List.length_cons] at hn |-;omega) (by have:=hx.1;omega) hx.2 hy.2 h1;refine⟨t1,k1,λu=>(k2 u).trans (B6 hk hx.1 (λu _ hu=>⟨qI hu,qI hu⟩) (λu hu=>⟨ud hu,ud hu⟩) h2 u)⟩
structure SpV(l:List Span):Prop where
 ap:ApartS l
 lo:∀ s∈l,0<=s.frm
 hi:∀ s∈l,s.til<=20000000
theorem SpV.tail{s:Span}{l:List Span}(h:SpV (s::l)):SpV l:=⟨h.ap.tail,λx hx=>h.lo x (mQ _ hx),λx hx=>h.hi x (mQ _ hx)⟩
theorem Dw:∀ {l:List Span} {t0:Int},ApartS l->(∀ s∈l,t0<s.frm)->tb t0 (aX l)
 | [],_,_,_=>trivial
 | s::l,t0,h,h0=>⟨h0 s (by simp),h.full s (by simp),Dw h.tail (λx hx=>(List.pairwise_cons.1 h.apart).1 x hx)⟩
theorem Dv:∀ {l:List Span},ApartS l->∀ u,inF (aX l) false u=true↔inS l u
 | [],_,u=>⟨λh=>(by cases h),λh=>absurd h (iX u)⟩
 | s::l,h,u=>by
   have hf:=h.full s (by simp);rw[gw,<-Dv h.tail u,show aX (s::l)=s.frm::s.til::aX l from rfl];by_cases h1:u<s.frm
   ·rw[qI h1];have h2:inF (aX l) false u=false:=YN (Dw h.tail (t0:=s.til) (λx hx=>(List.pairwise_cons.1 h.apart).1 x hx)) (by omega);rw[h2];constructor
    ·intro h;cases h
    ·rintro (h | h)
     ·omega
     ·cases h
   ·rw[ud (by omega)];by_cases h2:u<s.til
    ·rw[qI h2];exact⟨λ_=>.inl ⟨by omega,h2⟩,λ_=>rfl⟩
    ·rw[ud (by omega)];constructor
     ·intro h;exact .inr h
     ·rintro (h | h)
      ·omega
      ·exact h
theorem He:∀ (l:List Span) (p:Bool),yI (aX l) p=p
 | [],_=>rfl
 | s::l,p=>by
   rw[show aX (s::l)=s.frm::s.til::aX l from rfl,yI,yI,He l,Bool.not_not]
theorem awK{a b:List Span}(ha:SpV a)(hb:SpV b):((mrg (aX a) (aX b) false false).foldl fX ([],-1)).2 = -1/\ApartS (sH a b)/\∀ u,inS (sH a b) u↔inS a u/\¬ inS b u:=by
 have hk:SwOk ([],-1) (-1) false false:=⟨ApartS.nil,λs hs=>(by cases hs),λh=>(by simp at h),λ_=>rfl,(by simp),Int.le_refl _⟩;obtain⟨t1,h1,h2⟩:=awX _ (aX a) (aX b) false false ([],-1) (-1) (bQ _) (Int.le_refl _) (Dw ha.ap (λs hs=>by have:=ha.lo s hs;omega)) (Dw hb.ap (λs hs=>by have:=hb.lo s hs;omega)) hk;rw[He,He] at h1;have h0:((mrg (aX a) (aX b) false false).foldl fX ([],-1)).2<0:=by
  refine Decidable.byContradiction λhn=>?_
  have:=h1.opens.1 (by omega)
  cases this
 refine⟨h1.none h0,h1.ap,λu=>?_⟩
 have:=h2 u
 unfold sH;rw[<-Dv ha.ap,<-Dv hb.ap,Bool.not_eq_true];unfold xR at this;constructor
 ·intro h;rcases this.1 (.inl h) with h | h | h
  ·exact absurd h (iX u)
  ·exfalso;have:=h.1;simp at this
  ·exact h.2
 ·intro h;rcases this.2 (.inr (.inr ⟨by
   have h3:=(Dv ha.ap u).1 h.1;obtain⟨s,hs,h4,_⟩:=h3
   have:=ha.lo s hs
   omega,h⟩)) with h | h
  ·exact h
  ·omega
def jV(x:Span)(b o:List Span):List Span:=b.foldl (λo y=>if max x.frm y.frm<min x.til y.til then o ++ [⟨max x.frm y.frm,min x.til y.til⟩] else o) o
def tj(a b:List Span):List Span:=a.foldl (λo x=>jV x b o) []
def fU(p:List Span×Int)(s:Span):List Span×Int:=(if p.2<s.frm then p.1 ++ [⟨p.2,s.frm⟩] else p.1,s.til)
def iY(l:List Span):List Span:=if (l.foldl fU ([],0)).2<20000000 then (l.foldl fU ([],0)).1 ++ [⟨(l.foldl fU ([],0)).2,20000000⟩] else (l.foldl fU ([],0)).1
theorem G3{x:Span}(hx:x.frm<x.til):∀ (b o:List Span),ApartS b->ApartS o->(∀ s∈o,(∀ y∈b,s.til<max x.frm y.frm))->ApartS (jV x b o)/\(∀ u,inS (jV x b o) u↔inS o u\/(x.frm<=u/\u<x.til/\inS b u))/\∀ s∈jV x b o,s∈o\/s.til<=x.til
 | [],o,_,ho,_=>⟨ho,λu=>⟨.inl,λh=>h.elim id λh=>absurd h.2.2 (iX u)⟩,λs hs=>.inl hs⟩
 | y::b,o,hb,ho,hl=>by
   have hy:=hb.full y (by simp);unfold jV;rw[List.foldl_cons];by_cases hm:max x.frm y.frm<min x.til y.til
   ·rw[Qb hm];obtain⟨h1,h2,h3⟩:=G3 hx b (o ++ [⟨max x.frm y.frm,min x.til y.til⟩]) hb.tail (De ho hm (λs hs=>hl s hs y (by simp))) (λs hs z hz=>by
     rcases List.mem_append.1 hs with hs | hs
     ·exact hl s hs z (mQ _ hz)
     ·rw[List.mem_singleton] at hs;subst hs
      have:=(List.pairwise_cons.1 hb.apart).1 z hz
      simp only;omega)
    unfold jV at h1 h2 h3;refine⟨h1,λu=>?_,λs hs=>?_⟩
    ·rw[h2,qJ,Ev,gw];simp only;constructor
     ·rintro ((h | h) | h)
      ·exact .inl h
      ·exact .inr ⟨by omega,by omega,.inl (by omega)⟩
      ·exact .inr ⟨h.1,h.2.1,.inr h.2.2⟩
     ·rintro (h | ⟨h1,h2,h | h⟩)
      ·exact .inl (.inl h)
      ·exact .inl (.inr (by omega))
      ·exact .inr ⟨h1,h2,h⟩
    ·rcases h3 s hs with h | h
     ·rcases List.mem_append.1 h with h | h
      ·exact .inl h
      ·rw[List.mem_singleton] at h;subst h;exact .inr (by simp only;omega)
     ·exact .inr h
   ·rw[Qc hm];obtain⟨h1,h2,h3⟩:=G3 hx b o hb.tail ho (λs hs z hz=>hl s hs z (mQ _ hz));unfold jV at h1 h2 h3;refine⟨h1,λu=>?_,h3⟩;rw[h2,gw];constructor
    ·rintro (h | h)
     ·exact .inl h
     ·exact .inr ⟨h.1,h.2.1,.inr h.2.2⟩
    ·rintro (h | ⟨h1,h2,h | h⟩)
     ·exact .inl h
     ·omega
     ·exact .inr ⟨h1,h2,h⟩
theorem My{b:List Span}(hb:ApartS b):∀ (a o:List Span),ApartS a->ApartS o->(∀ s∈o,∀ x∈a,s.til<x.frm)->ApartS (a.foldl (λo x=>jV x b o) o)/\∀ u,inS (a.foldl (λo x=>jV x b o) o) u↔inS o u\/(inS a u/\inS b u)
 | [],o,_,ho,_=>⟨ho,λu=>⟨.inl,λh=>h.elim id λh=>absurd h.1 (iX u)⟩⟩
 | x::a,o,ha,ho,hl=>by
   rw[List.foldl_cons];obtain⟨h1,h2,h3⟩:=G3 (ha.full x (by simp)) b o hb ho (λs hs y _=>by have:=hl s hs x (by simp);omega);obtain⟨k1,k2⟩:=My hb a _ ha.tail h1 (λs hs z hz=>by
    rcases h3 s hs with h | h
    ·exact hl s h z (mQ _ hz)
    ·have:=(List.pairwise_cons.1 ha.apart).1 z hz;omega)
   refine⟨k1,λu=>?_⟩;rw[k2,h2,gw];constructor
   ·rintro ((h | h) | h)
    ·exact .inl h
    ·exact .inr ⟨.inl ⟨h.1,h.2.1⟩,h.2.2⟩
    ·exact .inr ⟨.inr h.1,h.2⟩
   ·rintro (h | ⟨h | h,h'⟩)
    ·exact .inl (.inl h)
    ·exact .inl (.inr ⟨h.1,h.2,h'⟩)
    ·exact .inr ⟨h,h'⟩
theorem JK:∀ (l o:List Span) (at':Int),SpV l->ApartS o->(∀ s∈o,s.til<=at')->(o≠[]->∀ s∈o,s.til<at')->(∀ s∈l,at'<=s.frm)->at'<=20000000->
 ApartS (l.foldl fU (o,at')).1/\(∀ s∈(l.foldl fU (o,at')).1,s.til<(l.foldl fU (o,at')).2)/\at'<=(l.foldl fU (o,at')).2/\(l.foldl fU (o,at')).2<=20000000/\
 ∀ u,(inS (l.foldl fU (o,at')).1 u\/(l.foldl fU (o,at')).2<=u)↔(inS o u\/(at'<=u/\¬ inS l u))
 | [],o,at',_,ho,_,h2,_,hat=>⟨ho,λs hs=>h2 (λe=>by rw[e] at hs;cases hs) s hs,Int.le_refl _,hat,λu=>by
  constructor
  ·rintro (h | h)
   ·exact .inl h
   ·exact .inr ⟨h,iX u⟩
  ·rintro (h | h)
   ·exact .inl h
   ·exact .inr h.1⟩
 | s::l,o,at',hl,ho,h1,h2,h3,hat=>by
   rw[List.foldl_cons];have hf:=hl.ap.full s (by simp);have hs:=h3 s (by simp);have oF:=(List.pairwise_cons.1 hl.ap.apart).1;have iS:=hl.hi s (by simp);unfold fU;simp only;by_cases aa:at'<s.frm
   ·rw[Qb aa];obtain⟨k1,k2,k3,k4,k5⟩:=JK l (o ++ [⟨at',s.frm⟩]) s.til hl.tail (De ho aa (λx hx=>h2 (λe=>by rw[e] at hx;cases hx) x hx)) (λx hx=>by
     rcases List.mem_append.1 hx with hx | hx
     ·have:=h1 x hx;omega
     ·rw[List.mem_singleton] at hx;subst hx;simp only;omega) (λ_ x hx=>by
     rcases List.mem_append.1 hx with hx | hx
     ·have:=h1 x hx;omega
     ·rw[List.mem_singleton] at hx;subst hx;simp only;omega) (λx hx=>by have:=oF x hx;omega) iS
    unfold fU at k1 k2 k3 k4 k5;refine⟨k1,k2,by omega,k4,λu=>?_⟩;rw[k5,qJ,Ev,gw];simp only;constructor
    ·rintro ((h | h) | h)
     ·exact .inl h
     ·refine .inr ⟨h.1,?_⟩;rintro (h' | h')
      ·omega
      ·have:=hl.ap.above h';omega
     ·refine .inr ⟨by omega,?_⟩;rintro (h' | h')
      ·omega
      ·exact h.2 h'
    ·rintro (h | ⟨h4,h5⟩)
     ·exact .inl (.inl h)
     ·by_cases hu:u<s.frm
      ·exact .inl (.inr ⟨h4,hu⟩)
      ·exact .inr ⟨Decidable.byContradiction λhn=>h5 (.inl (by omega)),λh=>h5 (.inr h)⟩
   ·rw[Qc aa];obtain⟨k1,k2,k3,k4,k5⟩:=JK l o s.til hl.tail ho (λx hx=>by have:=h1 x hx;omega) (λ_ x hx=>by have:=h1 x hx;omega) (λx hx=>by have:=oF x hx;omega) iS;unfold fU at k1 k2 k3 k4 k5;refine⟨k1,k2,by omega,k4,λu=>?_⟩;rw[k5,gw];constructor
    ·rintro (h | h)
     ·exact .inl h
     ·refine .inr ⟨by omega,?_⟩;rintro (h' | h')
      ·omega
      ·exact h.2 h'
    ·rintro (h | ⟨h4,h5⟩)
     ·exact .inl h
     ·exact .inr ⟨Decidable.byContradiction λhn=>h5 (.inl (by omega)),λh=>h5 (.inr h)⟩
theorem Z4{l:List Span}(hl:SpV l):ApartS (iY l)/\∀ u,0<=u->u<20000000->(inS (iY l) u↔¬ inS l u):=by
 obtain⟨k1,k2,k3,k4,k5⟩:=JK l [] 0 hl ApartS.nil (λs hs=>by cases hs) (λh=>absurd rfl h) (λs hs=>hl.lo s hs) (by omega);unfold iY;by_cases h:(l.foldl fU ([],0)).2<20000000
 ·rw[Qb h];refine⟨De k1 h k2,λu h0 hu=>?_⟩;rw[qJ,Ev]
  have:=k5 u
  constructor
  ·rintro (h' | h')
   ·rcases this.1 (.inl h') with h | h
    ·exact absurd h (iX u)
    ·exact h.2
   ·rcases this.1 (.inr h'.1) with h | h
    ·exact absurd h (iX u)
    ·exact h.2
  ·intro h';rcases this.2 (.inr ⟨h0,h'⟩) with h | h
   ·exact .inl h
   ·exact .inr ⟨h,hu⟩
 ·rw[Qc h];refine⟨k1,λu h0 hu=>?_⟩
  have:=k5 u
  constructor
  ·intro h';rcases this.1 (.inl h') with h | h
   ·exact absurd h (iX u)
   ·exact h.2
  ·intro h';rcases this.2 (.inr ⟨h0,h'⟩) with h | h
   ·exact h
   ·omega
theorem Rh{a b:List Span}(ha:SpV a)(hb:SpV b):sH a b=tj a (iY b):=by
 obtain⟨_,h1,h2⟩:=awK ha hb;obtain⟨n1,n2⟩:=Z4 hb;obtain⟨k1,k2⟩:=My n1 a [] ha.ap ApartS.nil (λs hs=>by cases hs);refine GX _ _ h1 k1 (λu=>?_);rw[h2];show _↔inS (a.foldl _ []) u;rw[k2];constructor
 ·rintro⟨h3,h4⟩;obtain⟨s,hs,h5,h6⟩:=h3;exact .inr ⟨⟨s,hs,h5,h6⟩,(n2 u (by have:=ha.lo s hs;omega) (by have:=ha.hi s hs;omega)).2 h4⟩
 ·rintro (h | ⟨h3,h4⟩)
  ·exact absurd h (iX u)
  ·obtain⟨s,hs,h5,h6⟩:=h3;exact⟨⟨s,hs,h5,h6⟩,(n2 u (by have:=ha.lo s hs;omega) (by have:=ha.hi s hs;omega)).1 h4⟩
end Np
end Go.Proofs.YtfnopgdcaanaiaaGreatDoor
