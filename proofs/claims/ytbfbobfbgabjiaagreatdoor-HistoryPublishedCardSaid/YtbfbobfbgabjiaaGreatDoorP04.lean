/- Parts of the proof. No condition. -/
import Derived.Shelf.SlicesE.Clone
import Derived.Ground.SlgnProg
import Derived.Ground.SlsfProg
import Derived.Shelf.SlGeneric
import Derived.Shelf.SlSortCmp.WholeK
import Derived.Test.YtbfbobfbgabjiaaGreatDoorProg
import Derived.Shelf.Strings.Builder1
import Derived.Shelf.Strings.Builder2
import Derived.Shelf.Strings.OnBuilder
import Derived.Shelf.Small.Bits
import Derived.Shelf.Small.Strs
import Derived.Shelf.Strconv.Itoa0
import Derived.Shelf.Strconv.Itoa1
import Derived.Shelf.LaysM
import Derived.Shelf.Strconv.Itoa2
import Derived.Shelf.Strconv.Itoa3
import Derived.Shelf.Strings.Search1
import Derived.Shelf.Strings.LastIndex
import Derived.Shelf.Strings.Prefix
import Derived.Shelf.SlSortCmp.Insertion
import Derived.Shelf.SlSortCmp.SiftDown1
import Derived.Shelf.SlSortCmp.HeapSort1
import Derived.Shelf.SlSortCmp.Insertion1
import Derived.Shelf.SlSortCmp.Median1
import Derived.Shelf.SlSortCmp.Pivot1
import Derived.Shelf.SlSortCmp.ReverseRange1
import Derived.Shelf.SlSortCmp.PartialInsertion1
import Derived.Shelf.SlSortCmp.PartitionEqual1
import Derived.Shelf.SlSortCmp.Partition1
import Derived.Shelf.SlSortCmp.Pdq1
import Derived.Shelf.SlSortCmp.Whole1
import Derived.Shelf.SlSortCmp.NoneTotal
import Derived.Lib.AppendIntMem
import Derived.Test.YtbfbobfbgabjiaaGreatDoorP01
set_option linter.all false
set_option maxRecDepth 100000
set_option maxHeartbeats 8000000
namespace Go.Proofs.YtbfbobfbgabjiaaGreatDoor
open Go.Proofs.Tryz
namespace Np
structure Sig where
 zone:List UInt8
 key:Int
 alg:Int
 frm:Int
 til:Int
 sum:Int
deriving DecidableEq
structure Signed where
 set:DSet
 sigs:List Sig
deriving DecidableEq
structure Span where
 frm:Int
 til:Int
deriving DecidableEq
def aCY(g x:Sig):Bool:=(x.frm != g.frm)||(x.til != g.til)
def aoJ:List Sig->Bool
 | []=>true
 | g::r=>!(decide (g.frm<0)||decide (g.til<g.frm)||decide (20000000<g.til))&&!((g::r).any (aCY g))
def plain(s:Signed):Bool:=dX s.set&&decide (s.sigs.length<=6)&&aoJ s.sigs
def KY(length drift life:Int):Int:=length - max life 1 - 3 * drift+2
def KX(begin stop length drift life:Int):Prop:=0<=drift/\drift<=1000/\1<=stop/\stop<=10000000/\drift<=begin/\begin<=stop - 1/\1<=length/\length<=10000000/\0<=life/\life<=100000
instance (b s l d f:Int):Decidable (KX b s l d f):=by unfold KX; infer_instance
def RG(b s k:Int):List Int:=(List.range ((s - b+k - 1) / k).toNat).map λ(i:Nat)=>b+i * k
def aKQ(b s l d f:Int):Int:=if KX b s l d f then (if KY l d f<1 then 32 else if 400<(RG b s (KY l d f)).length then 2 else 0) else 1
def times(b s l d f:Int):List Int:=if aKQ b s l d f=0 then RG b s (KY l d f) else []
def inS(l:List Span)(t:Int):Prop:=∃ s∈l,s.frm<=t/\t<s.til
structure ApartS(l:List Span):Prop where
 full:∀ s∈l,s.frm<s.til
 apart:l.Pairwise λa b=>a.til<b.frm
theorem qQ(t:Int):¬ inS [] t:=λ⟨_,h,_⟩=>by cases h
theorem mM{a:Span}{l:List Span}{t:Int} : inS (a::l) t↔(a.frm<=t/\t<a.til)\/inS l t:=by
 constructor
 ·rintro⟨s,hs,h⟩;rcases List.mem_cons.1 hs with e | hs
  ·subst e; exact .inl h
  ·exact .inr ⟨s,hs,h⟩
 ·rintro (h | ⟨s,hs,h⟩)
  ·exact⟨a,by simp,h⟩
  ·exact⟨s,mQ _ hs,h⟩
theorem Kg{a b:List Span}{t:Int} : inS (a++b) t↔inS a t\/inS b t:=by
 constructor
 ·rintro⟨s,hs,h⟩;rcases List.mem_append.1 hs with hs | hs
  ·exact .inl ⟨s,hs,h⟩
  ·exact .inr ⟨s,hs,h⟩
 ·rintro (⟨s,hs,h⟩ | ⟨s,hs,h⟩)
  ·exact⟨s,List.mem_append_left _ hs,h⟩
  ·exact⟨s,List.mem_append_right _ hs,h⟩
theorem ApartS.tail{a:Span}{l:List Span}(h:ApartS (a::l)):ApartS l:=⟨λs hs=>h.full s (mQ _ hs),(List.pairwise_cons.1 h.apart).2⟩
theorem ApartS.nil:ApartS []:=⟨λ_ h=>(by cases h),List.Pairwise.nil⟩
theorem ApartS.above{a:Span}{l:List Span}(h:ApartS (a::l)){t:Int}(ht:inS l t):a.til<t:=by
 obtain⟨s,hs,h1,_⟩:=ht
 have:=(List.pairwise_cons.1 h.apart).1 s hs
 omega
theorem ApartS.from{a:Span}{l:List Span}(h:ApartS (a::l)){t:Int}(ht:inS (a::l) t):a.frm<=t:=by
 rcases mM.1 ht with h1 | h1
 ·exact h1.1
 ·have h2:=h.above h1;have h3:=h.full a (by simp);omega
theorem MY:∀ (l m:List Span),ApartS l->ApartS m->(∀ t,inS l t↔inS m t)->l=m
 | [],[],_,_,_=>rfl
 | [],b::m,_,hm,h=>absurd ((h b.frm).2 ⟨b,by simp,Int.le_refl _,hm.full b (by simp)⟩) (qQ _)
 | a::l,[],hl,_,h=>absurd ((h a.frm).1 ⟨a,by simp,Int.le_refl _,hl.full a (by simp)⟩) (qQ _)
 | a::l,b::m,hl,hm,h=>by
   have fa:=hl.full a (by simp);have fb:=hm.full b (by simp);have e1:a.frm=b.frm:=by
    have h1:=hm.from ((h a.frm).1 ⟨a,by simp,Int.le_refl _,fa⟩);have h2:=hl.from ((h b.frm).2 ⟨b,by simp,Int.le_refl _,fb⟩);omega
   have e2:a.til=b.til:=by
    rcases Int.lt_trichotomy a.til b.til with aa | he | aa
    ·exfalso
     have:=(h a.til).2 (mM.2 (.inl ⟨by omega,aa⟩))
     rcases mM.1 this with h1 | h1
     ·omega
     ·have:=hl.above h1; omega
    ·exact he
    ·exfalso
     have:=(h b.til).1 (mM.2 (.inl ⟨by omega,aa⟩))
     rcases mM.1 this with h1 | h1
     ·omega
     ·have:=hm.above h1; omega
   have e:a=b:=by obtain⟨_,_⟩:=a; obtain⟨_,_⟩:=b; simp only at e1 e2; rw[e1,e2]
   subst e;rw[MY l m hl.tail hm.tail (λt=>by
    constructor
    ·intro ht;have h1:=hl.above ht;rcases mM.1 ((h t).1 (mM.2 (.inr ht))) with h2 | h2
     ·omega
     ·exact h2
    ·intro ht;have h1:=hm.above ht;rcases mM.1 ((h t).2 (mM.2 (.inr ht))) with h2 | h2
     ·omega
     ·exact h2)]
def fY(out:List Span)(s:Span):List Span:=
 match out.getLast? with
 | none=>[s]
 | some p=>if s.frm<=p.til then out.dropLast ++ [⟨p.frm,max p.til s.til⟩] else out ++ [s]
theorem RL(s:Span):fY [] s = [s]:=rfl
theorem K6(o:List Span)(p s:Span):fY (o ++ [p]) s=if s.frm<=p.til then o ++ [⟨p.frm,max p.til s.til⟩] else o ++ [p] ++ [s]:=by simp[fY]
theorem aLQ{out:List Span}{s:Span}(ho:ApartS out)(hs:s.frm<s.til)(hf:∀ p∈out,p.frm<=s.frm):ApartS (fY out s)/\(∀ t,inS (fY out s) t↔inS out t\/(s.frm<=t/\t<s.til))/\∀ p∈fY out s,p.frm<=s.frm:=by
 rcases List.eq_nil_or_concat out with rfl | ⟨o,p,rfl⟩
 ·rw[RL];refine⟨⟨λx hx=>?_,by simp⟩,λt=>?_,λx hx=>?_⟩
  ·rw[List.mem_singleton] at hx; subst hx; exact hs
  ·rw[mM];constructor
   ·rintro (h | h); exact .inr h; exact absurd h (qQ t)
   ·rintro (h | h); exact absurd h (qQ t); exact .inl h
  ·rw[List.mem_singleton] at hx; subst hx; exact Int.le_refl _
 ·rw[List.concat_eq_append] at ho hf |-;rw[K6];have hp:=hf p (by simp);have yK:=ho.full p (by simp);obtain⟨a1,a2,a3⟩:=List.pairwise_append.1 ho.apart;split
  ·rename_i gw;have Ez:=Int.le_max_left p.til s.til;have jw:=Int.le_max_right p.til s.til;have hm3:max p.til s.til=p.til\/max p.til s.til=s.til:=by omega
   refine⟨⟨λx hx=>?_,?_⟩,λt=>?_,λx hx=>?_⟩
   ·rcases List.mem_append.1 hx with hx | hx
    ·exact ho.full x (List.mem_append_left _ hx)
    ·rw[List.mem_singleton] at hx; subst hx; dsimp only; omega
   ·refine List.pairwise_append.2 ⟨a1,by simp,λx hx y hy=>?_⟩;rw[List.mem_singleton] at hy; subst hy;exact a3 x hx p (by simp)
   ·rw[Kg,Kg,mM,mM];dsimp only;constructor
    ·rintro (h | h | h)
     ·exact .inl (.inl h)
     ·rcases Int.lt_or_le t p.til with h2 | h2
      ·exact .inl (.inr (.inl ⟨h.1,h2⟩))
      ·exact .inr ⟨by omega,by omega⟩
     ·exact absurd h (qQ t)
    ·rintro ((h | h | h) | h)
     ·exact .inl h
     ·exact .inr (.inl ⟨h.1,by omega⟩)
     ·exact absurd h (qQ t)
     ·exact .inr (.inl ⟨by omega,by omega⟩)
   ·rcases List.mem_append.1 hx with hx | hx
    ·exact hf x (List.mem_append_left _ hx)
    ·rw[List.mem_singleton] at hx; subst hx; exact hp
  ·rename_i gw;refine⟨⟨λx hx=>?_,?_⟩,λt=>?_,λx hx=>?_⟩
   ·rcases List.mem_append.1 hx with hx | hx
    ·exact ho.full x hx
    ·rw[List.mem_singleton] at hx; subst hx; exact hs
   ·refine List.pairwise_append.2 ⟨ho.apart,by simp,λx hx y hy=>?_⟩;rw[List.mem_singleton] at hy; subst hy;rcases List.mem_append.1 hx with hx | hx
    ·have:=a3 x hx p (by simp); omega
    ·rw[List.mem_singleton] at hx; subst hx; omega
   ·rw[Kg,mM];constructor
    ·rintro (h | h | h)
     ·exact .inl h
     ·exact .inr h
     ·exact absurd h (qQ t)
    ·rintro (h | h)
     ·exact .inl h
     ·exact .inr (.inl h)
   ·rcases List.mem_append.1 hx with hx | hx
    ·exact hf x hx
    ·rw[List.mem_singleton] at hx; subst hx; exact Int.le_refl _
theorem RK:∀ (l out:List Span),ApartS out->(∀ s∈l,s.frm<s.til)->l.Pairwise (λa b=>a.frm<=b.frm)->(∀ p∈out,∀ s∈l,p.frm<=s.frm)->ApartS (l.foldl fY out)/\∀ t,inS (l.foldl fY out) t↔inS out t\/inS l t
 | [],out,ho,_,_,_=>⟨ho,λt=>⟨.inl,λh=>h.elim id (λh=>absurd h (qQ t))⟩⟩
 | s::l,out,ho,hf,hs,hp=>by
   obtain⟨h1,h2,h3⟩:=aLQ ho (hf s (by simp)) (λp qH=>hp p qH s (by simp));obtain⟨q1,q2⟩:=List.pairwise_cons.1 hs;obtain⟨h4,h5⟩:=RK l (fY out s) h1 (λx hx=>hf x (mQ _ hx)) q2 (λp qH x hx=>by
    have:=h3 p qH
    have:=q1 x hx
    omega)
   refine⟨h4,λt=>?_⟩;rw[List.foldl_cons,h5,h2,mM,or_assoc]
end Np
end Go.Proofs.YtbfbobfbgabjiaaGreatDoor
namespace Go.Proofs
open YtbfbobfbgabjiaaGreatDoor
open Go.Shelf
def Tryz.sortSpan_ren:Go.Shelf.Ren:=⟨fun | 6=>56 | 15=>95 | 14=>108 | 28=>156 | 29=>157 | 20=>168 | 21=>169 | 22=>170 | 23=>171 | 24=>172 | 25=>173 | 26=>174 | 27=>175 | 46=>225 | 47=>216 | 48=>217 | 49=>226 | 50=>227 | 57=>252 | n=>n,fun | 22=>46 | 24=>114 | 25=>117 | 3=>3 | 39=>154 | 0=>0 | 53=>214 | 55=>131 | 4=>4 | 46=>208 | 45=>207 | 50=>123 | 5=>5 | 9=>9 | 66=>252 | 70=>256 | 76=>278 | 77=>279 | n=>n,fun | n=>n⟩
theorem Tryz.sortSpan:Go.Proofs.SlLaysF0.n6 Tryz.prog Tryz.sortSpan_ren:={
 mixed:=by kernel_rfl
 f6:=⟨Tryz.f56.name,by decide,Tryz.func56.trans (Qd some (by kernel_rfl))⟩
 f14:=⟨Tryz.f108.name,by decide,Tryz.func108.trans (Qd some (by kernel_rfl))⟩
 f15:=Tryz.func95.trans (Qd some (by kernel_rfl))
 f20:=⟨Tryz.f168.name,by decide,Tryz.func168.trans (Qd some (by kernel_rfl))⟩
 f21:=⟨Tryz.f169.name,by decide,Tryz.func169.trans (Qd some (by kernel_rfl))⟩
 f22:=⟨Tryz.f170.name,by decide,Tryz.func170.trans (Qd some (by kernel_rfl))⟩
 f23:=⟨Tryz.f171.name,by decide,Tryz.func171.trans (Qd some (by kernel_rfl))⟩
 f24:=⟨Tryz.f172.name,by decide,Tryz.func172.trans (Qd some (by kernel_rfl))⟩
 f25:=⟨Tryz.f173.name,by decide,Tryz.func173.trans (Qd some (by kernel_rfl))⟩
 f26:=⟨Tryz.f174.name,by decide,Tryz.func174.trans (Qd some (by kernel_rfl))⟩
 f27:=⟨Tryz.f175.name,by decide,Tryz.func175.trans (Qd some (by kernel_rfl))⟩
 f28:=Tryz.func156.trans (Qd some (by kernel_rfl))
 f29:=Tryz.func157.trans (Qd some (by kernel_rfl))
 f46:=⟨Tryz.f225.name,by decide,Tryz.func225.trans (Qd some (by kernel_rfl))⟩
 f47:=Tryz.func216.trans (Qd some (by kernel_rfl))
 f48:=Tryz.func217.trans (Qd some (by kernel_rfl))
 f49:=⟨Tryz.f226.name,by decide,Tryz.func226.trans (Qd some (by kernel_rfl))⟩
 f50:=⟨Tryz.f227.name,by decide,Tryz.func227.trans (Qd some (by kernel_rfl))⟩
 f57:=⟨Tryz.f252.name,by decide,Tryz.func252.trans (Qd some (by kernel_rfl))⟩
 t0:=Tryz.underlying0
 a0:=Tryz.isAgg0
 z0:=Tryz.sizeOf0
 v0:=Tryz.zeroValue0
 t3:=Tryz.underlying3
 a3:=Tryz.isAgg3
 z3:=Tryz.sizeOf3
 v3:=Tryz.zeroValue3
 t4:=Tryz.underlying4
 a4:=Tryz.isAgg4
 z4:=Tryz.sizeOf4
 v4:=Tryz.zeroValue4
 t5:=Tryz.underlying5
 a5:=Tryz.isAgg5
 z5:=Tryz.sizeOf5
 v5:=Tryz.zeroValue5
 t9:=Tryz.underlying9
 a9:=Tryz.isAgg9
 z9:=Tryz.sizeOf9
 v9:=Tryz.zeroValue9
 t22:=Tryz.underlying46
 a22:=Tryz.isAgg46
 z22:=Tryz.sizeOf46
 v22:=Tryz.zeroValue46
 t25:=Tryz.underlying117
 a25:=Tryz.isAgg117
 z25:=Tryz.sizeOf117
 v25:=Tryz.zeroValue117
 t39:=Tryz.underlying154
 a39:=Tryz.isAgg154
 z39:=Tryz.sizeOf154
 v39:=Tryz.zeroValue154
 t45:=Tryz.underlying207
 a45:=Tryz.isAgg207
 z45:=Tryz.sizeOf207
 v45:=Tryz.zeroValue207
 t46:=Tryz.underlying208
 a46:=Tryz.isAgg208
 z46:=Tryz.sizeOf208
 v46:=Tryz.zeroValue208
 t50:=Tryz.underlying123
 a50:=Tryz.isAgg123
 z50:=Tryz.sizeOf123
 v50:=Tryz.zeroValue123
 t53:=Tryz.underlying214
 a53:=Tryz.isAgg214
 z53:=Tryz.sizeOf214
 v53:=Tryz.zeroValue214
 t55:=Tryz.underlying131
 a55:=Tryz.isAgg131
 z55:=Tryz.sizeOf131
 v55:=Tryz.zeroValue131
 t66:=Tryz.underlying252
 a66:=Tryz.isAgg252
 z66:=Tryz.sizeOf252
 v66:=Tryz.zeroValue252
 t70:=Tryz.underlying256
 a70:=Tryz.isAgg256
 z70:=Tryz.sizeOf256
 v70:=Tryz.zeroValue256
 t76:=Tryz.underlying278
 a76:=Tryz.isAgg278
 z76:=Tryz.sizeOf278
 v76:=Tryz.zeroValue278
 t77:=Tryz.underlying279
 a77:=Tryz.isAgg279
 z77:=Tryz.sizeOf279
 v77:=Tryz.zeroValue279 }
end Go.Proofs
namespace Go.Proofs
open YtbfbobfbgabjiaaGreatDoor
open Go.Shelf
def Tryz.laysSlF6_f51_ren:Go.Shelf.Ren:=⟨fun | 6=>51 | 15=>95 | 14=>94 | 28=>156 | 29=>157 | 20=>148 | 21=>149 | 22=>150 | 23=>151 | 24=>152 | 25=>153 | 26=>154 | 27=>155 | 46=>215 | 47=>216 | 48=>217 | 49=>218 | 50=>219 | 57=>251 | n=>n,fun | 22=>38 | 24=>9 | 25=>108 | 3=>3 | 39=>154 | 0=>0 | 53=>214 | 55=>131 | 4=>4 | 46=>208 | 45=>207 | 50=>123 | 5=>5 | 9=>9 | 66=>252 | 70=>256 | 76=>278 | 77=>279 | n=>n,fun | n=>n⟩
theorem Tryz.laysSlF6_f51:Go.Proofs.SlLaysF.n6 Tryz.prog Tryz.laysSlF6_f51_ren:={
 mixed:=by kernel_rfl
 f6:=⟨Tryz.f51.name,by decide,Tryz.func51.trans (Qd some (by kernel_rfl))⟩
 f14:=⟨Tryz.f94.name,by decide,Tryz.func94.trans (Qd some (by kernel_rfl))⟩
 f15:=Tryz.func95.trans (Qd some (by kernel_rfl))
 f20:=⟨Tryz.f148.name,by decide,Tryz.func148.trans (Qd some (by kernel_rfl))⟩
 f21:=⟨Tryz.f149.name,by decide,Tryz.func149.trans (Qd some (by kernel_rfl))⟩
 f22:=⟨Tryz.f150.name,by decide,Tryz.func150.trans (Qd some (by kernel_rfl))⟩
 f23:=⟨Tryz.f151.name,by decide,Tryz.func151.trans (Qd some (by kernel_rfl))⟩
 f24:=⟨Tryz.f152.name,by decide,Tryz.func152.trans (Qd some (by kernel_rfl))⟩
 f25:=⟨Tryz.f153.name,by decide,Tryz.func153.trans (Qd some (by kernel_rfl))⟩
 f26:=⟨Tryz.f154.name,by decide,Tryz.func154.trans (Qd some (by kernel_rfl))⟩
 f27:=⟨Tryz.f155.name,by decide,Tryz.func155.trans (Qd some (by kernel_rfl))⟩
 f28:=Tryz.func156.trans (Qd some (by kernel_rfl))
 f29:=Tryz.func157.trans (Qd some (by kernel_rfl))
 f46:=⟨Tryz.f215.name,by decide,Tryz.func215.trans (Qd some (by kernel_rfl))⟩
 f47:=Tryz.func216.trans (Qd some (by kernel_rfl))
 f48:=Tryz.func217.trans (Qd some (by kernel_rfl))
 f49:=⟨Tryz.f218.name,by decide,Tryz.func218.trans (Qd some (by kernel_rfl))⟩
 f50:=⟨Tryz.f219.name,by decide,Tryz.func219.trans (Qd some (by kernel_rfl))⟩
 f57:=⟨Tryz.f251.name,by decide,Tryz.func251.trans (Qd some (by kernel_rfl))⟩
 t0:=Tryz.underlying0
 a0:=Tryz.isAgg0
 z0:=Tryz.sizeOf0
 v0:=Tryz.zeroValue0
 t3:=Tryz.underlying3
 a3:=Tryz.isAgg3
 z3:=Tryz.sizeOf3
 v3:=Tryz.zeroValue3
 t4:=Tryz.underlying4
 a4:=Tryz.isAgg4
 z4:=Tryz.sizeOf4
 v4:=Tryz.zeroValue4
 t5:=Tryz.underlying5
 a5:=Tryz.isAgg5
 z5:=Tryz.sizeOf5
 v5:=Tryz.zeroValue5
 t9:=Tryz.underlying9
 a9:=Tryz.isAgg9
 z9:=Tryz.sizeOf9
 v9:=Tryz.zeroValue9
 t22:=Tryz.underlying38
 a22:=Tryz.isAgg38
 z22:=Tryz.sizeOf38
 v22:=Tryz.zeroValue38
 a24:=Tryz.isAgg9
 z24:=Tryz.sizeOf9
 t25:=Tryz.underlying108
 a25:=Tryz.isAgg108
 z25:=Tryz.sizeOf108
 v25:=Tryz.zeroValue108
 t39:=Tryz.underlying154
 a39:=Tryz.isAgg154
 z39:=Tryz.sizeOf154
 v39:=Tryz.zeroValue154
 t45:=Tryz.underlying207
 a45:=Tryz.isAgg207
 z45:=Tryz.sizeOf207
 v45:=Tryz.zeroValue207
 t46:=Tryz.underlying208
 a46:=Tryz.isAgg208
 z46:=Tryz.sizeOf208
 v46:=Tryz.zeroValue208
 t50:=Tryz.underlying123
 a50:=Tryz.isAgg123
 z50:=Tryz.sizeOf123
 v50:=Tryz.zeroValue123
 t53:=Tryz.underlying214
 a53:=Tryz.isAgg214
 z53:=Tryz.sizeOf214
 v53:=Tryz.zeroValue214
 t55:=Tryz.underlying131
 a55:=Tryz.isAgg131
 z55:=Tryz.sizeOf131
 v55:=Tryz.zeroValue131
 t66:=Tryz.underlying252
 a66:=Tryz.isAgg252
 z66:=Tryz.sizeOf252
 v66:=Tryz.zeroValue252
 t70:=Tryz.underlying256
 a70:=Tryz.isAgg256
 z70:=Tryz.sizeOf256
 v70:=Tryz.zeroValue256
 t76:=Tryz.underlying278
 a76:=Tryz.isAgg278
 z76:=Tryz.sizeOf278
 v76:=Tryz.zeroValue278
 t77:=Tryz.underlying279
 a77:=Tryz.isAgg279
 z77:=Tryz.sizeOf279
 v77:=Tryz.zeroValue279 }
def Tryz.laysSlF06_f51_ren:Go.Shelf.Ren:=⟨fun | 6=>51 | 15=>95 | 14=>94 | 28=>156 | 29=>157 | 20=>148 | 21=>149 | 22=>150 | 23=>151 | 24=>152 | 25=>153 | 26=>154 | 27=>155 | 46=>215 | 47=>216 | 48=>217 | 49=>218 | 50=>219 | 57=>251 | n=>n,fun | 22=>38 | 24=>9 | 25=>108 | 3=>3 | 39=>154 | 0=>0 | 53=>214 | 55=>131 | 4=>4 | 46=>208 | 45=>207 | 50=>123 | 5=>5 | 9=>9 | 66=>252 | 70=>256 | 76=>278 | 77=>279 | n=>n,fun | n=>n⟩
theorem Tryz.laysSlF06_f51:Go.Proofs.SlLaysF0.n6 Tryz.prog Tryz.laysSlF06_f51_ren:={
 mixed:=by kernel_rfl
 f6:=⟨Tryz.f51.name,by decide,Tryz.func51.trans (Qd some (by kernel_rfl))⟩
 f14:=⟨Tryz.f94.name,by decide,Tryz.func94.trans (Qd some (by kernel_rfl))⟩
 f15:=Tryz.func95.trans (Qd some (by kernel_rfl))
 f20:=⟨Tryz.f148.name,by decide,Tryz.func148.trans (Qd some (by kernel_rfl))⟩
 f21:=⟨Tryz.f149.name,by decide,Tryz.func149.trans (Qd some (by kernel_rfl))⟩
 f22:=⟨Tryz.f150.name,by decide,Tryz.func150.trans (Qd some (by kernel_rfl))⟩
 f23:=⟨Tryz.f151.name,by decide,Tryz.func151.trans (Qd some (by kernel_rfl))⟩
 f24:=⟨Tryz.f152.name,by decide,Tryz.func152.trans (Qd some (by kernel_rfl))⟩
 f25:=⟨Tryz.f153.name,by decide,Tryz.func153.trans (Qd some (by kernel_rfl))⟩
 f26:=⟨Tryz.f154.name,by decide,Tryz.func154.trans (Qd some (by kernel_rfl))⟩
 f27:=⟨Tryz.f155.name,by decide,Tryz.func155.trans (Qd some (by kernel_rfl))⟩
 f28:=Tryz.func156.trans (Qd some (by kernel_rfl))
 f29:=Tryz.func157.trans (Qd some (by kernel_rfl))
 f46:=⟨Tryz.f215.name,by decide,Tryz.func215.trans (Qd some (by kernel_rfl))⟩
 f47:=Tryz.func216.trans (Qd some (by kernel_rfl))
 f48:=Tryz.func217.trans (Qd some (by kernel_rfl))
 f49:=⟨Tryz.f218.name,by decide,Tryz.func218.trans (Qd some (by kernel_rfl))⟩
 f50:=⟨Tryz.f219.name,by decide,Tryz.func219.trans (Qd some (by kernel_rfl))⟩
 f57:=⟨Tryz.f251.name,by decide,Tryz.func251.trans (Qd some (by kernel_rfl))⟩
 t0:=Tryz.underlying0
 a0:=Tryz.isAgg0
 z0:=Tryz.sizeOf0
 v0:=Tryz.zeroValue0
 t3:=Tryz.underlying3
 a3:=Tryz.isAgg3
 z3:=Tryz.sizeOf3
 v3:=Tryz.zeroValue3
 t4:=Tryz.underlying4
 a4:=Tryz.isAgg4
 z4:=Tryz.sizeOf4
 v4:=Tryz.zeroValue4
 t5:=Tryz.underlying5
 a5:=Tryz.isAgg5
 z5:=Tryz.sizeOf5
 v5:=Tryz.zeroValue5
 t9:=Tryz.underlying9
 a9:=Tryz.isAgg9
 z9:=Tryz.sizeOf9
 v9:=Tryz.zeroValue9
 t22:=Tryz.underlying38
 a22:=Tryz.isAgg38
 z22:=Tryz.sizeOf38
 v22:=Tryz.zeroValue38
 t25:=Tryz.underlying108
 a25:=Tryz.isAgg108
 z25:=Tryz.sizeOf108
 v25:=Tryz.zeroValue108
 t39:=Tryz.underlying154
 a39:=Tryz.isAgg154
 z39:=Tryz.sizeOf154
 v39:=Tryz.zeroValue154
 t45:=Tryz.underlying207
 a45:=Tryz.isAgg207
 z45:=Tryz.sizeOf207
 v45:=Tryz.zeroValue207
 t46:=Tryz.underlying208
 a46:=Tryz.isAgg208
 z46:=Tryz.sizeOf208
 v46:=Tryz.zeroValue208
 t50:=Tryz.underlying123
 a50:=Tryz.isAgg123
 z50:=Tryz.sizeOf123
 v50:=Tryz.zeroValue123
 t53:=Tryz.underlying214
 a53:=Tryz.isAgg214
 z53:=Tryz.sizeOf214
 v53:=Tryz.zeroValue214
 t55:=Tryz.underlying131
 a55:=Tryz.isAgg131
 z55:=Tryz.sizeOf131
 v55:=Tryz.zeroValue131
 t66:=Tryz.underlying252
 a66:=Tryz.isAgg252
 z66:=Tryz.sizeOf252
 v66:=Tryz.zeroValue252
 t70:=Tryz.underlying256
 a70:=Tryz.isAgg256
 z70:=Tryz.sizeOf256
 v70:=Tryz.zeroValue256
 t76:=Tryz.underlying278
 a76:=Tryz.isAgg278
 z76:=Tryz.sizeOf278
 v76:=Tryz.zeroValue278
 t77:=Tryz.underlying279
 a77:=Tryz.isAgg279
 z77:=Tryz.sizeOf279
 v77:=Tryz.zeroValue279 }
open Go.RowKit Go.Lib Go.Sort in
theorem Tryz.slices_SortFunc_none{α:Type}[Inhabited α](p:Option Addr)(cap:Nat)(fv:Value)(w:World) :
 Calls Tryz.prog 51 #[.slice p 0 cap,fv] w λe w'=>e = .returned (.tuple #[])/\w'=w:=AnyF.slices_SortFunc_none Tryz.laysSlF06_f51 p cap fv w
open Go.RowKit Go.Lib Go.Sort in
theorem Tryz.slices_SortFunc_total{α:Type}[Inhabited α](enc:α->Value)(h1:OneCell enc)(cf:α->α->Int)(hO:SWO (ltOf cf))(g:Nat)(cb:Array Value)(blk off cap:Nat)(d:Array α)(w:World)(eg:∀ args w,(callFunc g args).run Tryz.prog w = .ok (.enter g args) w)(BA:CmpLays1 Tryz.prog g cb enc cf blk off d.size w)(hH:Holds enc w blk off d)(X6:blk<w.heap.size)(am:d.size<4611686018427387904)(hT:∀ x y,(ltOf cf) x y=false->(ltOf cf) y x=false->x=y) :
 Calls Tryz.prog 51 #[.slice (some ⟨blk,off,none⟩) d.size cap,.func (.func g) #[] cb] w λe w'=>
  e = .returned (.tuple #[])/\∃ n os,w'=sortWorld enc w blk off n (d.toList.mergeSort λx y=>!(ltOf cf) y x).toArray os:=Any.slices_SortFunc_total Tryz.laysSlF6_f51 enc h1 cf hO g cb blk off cap d w eg BA hH X6 am hT
end Go.Proofs
namespace Go.Proofs
open YtbfbobfbgabjiaaGreatDoor
open Go.Shelf
def Tryz.laysM171_ren:Go.Shelf.Ren:=⟨fun | 171=>120 | 243=>189 | 246=>232 | 283=>233 | 284=>234 | 285=>235 | 286=>236 | 129=>157 | 317=>254 | 318=>255 | 319=>256 | 320=>257 | 337=>266 | 338=>267 | n=>n,fun | 3=>3 | 9=>9 | 2=>2 | 4=>4 | 171=>265 | 0=>0 | 53=>131 | 37=>169 | 5=>5 | 173=>267 | 212=>284 | 51=>214 | 20=>20 | 213=>285 | 46=>154 | 232=>291 | 233=>292 | n=>n,fun | 17=>2 | 18=>3 | 19=>4 | n=>n⟩
theorem Tryz.laysM171:Go.Proofs.LaysM.n171 Tryz.prog Tryz.laysM171_ren:={
 mixed:=by kernel_rfl
 f129:=Tryz.func157.trans (Qd some (by kernel_rfl))
 f171:=Tryz.func120.trans (Qd some (by kernel_rfl))
 f243:=Tryz.func189.trans (Qd some (by kernel_rfl))
 f246:=Tryz.func232.trans (Qd some (by kernel_rfl))
 f283:=Tryz.func233.trans (Qd some (by kernel_rfl))
 f284:=Tryz.func234.trans (Qd some (by kernel_rfl))
 f285:=Tryz.func235.trans (Qd some (by kernel_rfl))
 f286:=Tryz.func236.trans (Qd some (by kernel_rfl))
 f317:=Tryz.func254.trans (Qd some (by kernel_rfl))
 f318:=Tryz.func255.trans (Qd some (by kernel_rfl))
 f319:=Tryz.func256.trans (Qd some (by kernel_rfl))
 f320:=Tryz.func257.trans (Qd some (by kernel_rfl))
 f337:=Tryz.func266.trans (Qd some (by kernel_rfl))
 f338:=Tryz.func267.trans (Qd some (by kernel_rfl))
 t0:=Tryz.underlying0
 a0:=Tryz.isAgg0
 z0:=Tryz.sizeOf0
 v0:=Tryz.zeroValue0
 t2:=Tryz.underlying2
 a2:=Tryz.isAgg2
 z2:=Tryz.sizeOf2
 v2:=Tryz.zeroValue2
 t3:=Tryz.underlying3
 a3:=Tryz.isAgg3
 z3:=Tryz.sizeOf3
 v3:=Tryz.zeroValue3
 t4:=Tryz.underlying4
 a4:=Tryz.isAgg4
 z4:=Tryz.sizeOf4
 v4:=Tryz.zeroValue4
 t5:=Tryz.underlying5
 a5:=Tryz.isAgg5
 z5:=Tryz.sizeOf5
 v5:=Tryz.zeroValue5
 t9:=Tryz.underlying9
 a9:=Tryz.isAgg9
 z9:=Tryz.sizeOf9
 v9:=Tryz.zeroValue9
 t20:=Tryz.underlying20
 a20:=Tryz.isAgg20
 z20:=Tryz.sizeOf20
 v20:=Tryz.zeroValue20
 t37:=Tryz.underlying169
 a37:=Tryz.isAgg169
 z37:=Tryz.sizeOf169
 v37:=Tryz.zeroValue169
 t46:=Tryz.underlying154
 a46:=Tryz.isAgg154
 z46:=Tryz.sizeOf154
 v46:=Tryz.zeroValue154
 t51:=Tryz.underlying214
 a51:=Tryz.isAgg214
 z51:=Tryz.sizeOf214
 v51:=Tryz.zeroValue214
 t53:=Tryz.underlying131
 a53:=Tryz.isAgg131
 z53:=Tryz.sizeOf131
 v53:=Tryz.zeroValue131
 t171:=Tryz.underlying265
 a171:=Tryz.isAgg265
 z171:=Tryz.sizeOf265
 v171:=Tryz.zeroValue265
 t173:=Tryz.underlying267
 a173:=Tryz.isAgg267
 z173:=Tryz.sizeOf267
 v173:=Tryz.zeroValue267
 t212:=Tryz.underlying284
 a212:=Tryz.isAgg284
 z212:=Tryz.sizeOf284
 v212:=Tryz.zeroValue284
 t213:=Tryz.underlying285
 a213:=Tryz.isAgg285
 z213:=Tryz.sizeOf285
 t232:=Tryz.underlying291
 a232:=Tryz.isAgg291
 z232:=Tryz.sizeOf291
 v232:=Tryz.zeroValue291
 t233:=Tryz.underlying292
 a233:=Tryz.isAgg292
 z233:=Tryz.sizeOf292
 v233:=Tryz.zeroValue292
 g17:=by kernel_rfl
 g18:=by kernel_rfl
 g19:=by kernel_rfl
 i0:=by kernel_rfl
 i2:=by kernel_rfl
 i3:=by kernel_rfl
 i4:=by kernel_rfl
 i5:=by kernel_rfl
 i9:=by kernel_rfl
 i20:=by kernel_rfl
 i37:=by kernel_rfl
 i46:=by kernel_rfl
 i51:=by kernel_rfl
 i53:=by kernel_rfl
 i171:=by kernel_rfl
 i173:=by kernel_rfl
 i212:=by kernel_rfl
 i232:=by kernel_rfl
 i233:=by kernel_rfl
 m17:=by kernel_rfl
 m18:=by kernel_rfl
 m19:=by kernel_rfl }
open Go.RowKit Go.Sort Go.Lib in
theorem Tryz.strconv_Itoa(n:Int)(h0 : -9223372036854775808<=n)(h1:n<=9223372036854775807)(w:World)(Ci:Lib.TabIs Tryz.prog w "internal/strconv.uint64pow10" .u64 Lib.pow10Tab) :
 Calls Tryz.prog 120 #[.int .i64 n] w λe w'=>e = .returned (.string ⟨(Lib.itoa n).toArray⟩)/\∃ k os,w'=grow (w.drewN k) os:=Any.strconv_Itoa Tryz.laysM171 n h0 h1 w Ci
end Go.Proofs
namespace Go.Proofs.YtbfbobfbgabjiaaGreatDoor
open Go.Proofs.Tryz
section
open Go.RowKit Go.Sort Go.Lib
theorem W7(u:Nat)(Cl:u<18446744073709551616)(w:World)(Ci:Lib.TabIs prog w "internal/strconv.uint64pow10" .u64 Lib.pow10Tab) :
 Calls prog 190 #[.int .u64 u,.int .i64 10] w λe w'=>e = .returned (.string ⟨(Lib.decDigits u).toArray⟩)/\∃ k os,w'=grow (w.drewN k) os:=by
 have wO:∀ w,1<=u->Lib.TabIs prog w "internal/strconv.uint64pow10" .u64 Lib.pow10Tab->Calls prog 234 #[.int .u64 u] w λe w'=>e = .returned (.int .i64 (Lib.nDigits u))/\w'=w:=λw h1 h=>Any.internal_strconv_numDigits { Tryz.laysM171 with } u h1 Cl w h;by_cases hs:u<100
 ·have JS:∀ w,Calls prog 233 #[.int .i64 u] w λe w'=>e = .returned (.string ⟨(Lib.decDigits u).toArray⟩)/\w'=w:=λw=>Any.internal_strconv_small { Tryz.laysM171 with } u hs w;go_enter func190,ntmps190;go_wp2_with fail;refine (JS _).mono ?_;rintro e w' ⟨rfl,rfl⟩;go_wp2_with fail;go_ret;exact⟨rfl,0,#[],by simp[World.drewN_zero]⟩
 ·have uj:1<=u:=by omega
  have a3Y:Lib.nDigits u<=20:=by have:=Lib.numDigits_eq u uj Cl; split at this <;> omega
  have ag:Lib.nDigits u<=24:=by omega
  have ia:prog.arrayLen 265=24:=by simp[Program.arrayLen,underlying265]
  have eX:∀ W,(Instr.sliceAt 265 (.pointer (some ⟨w.heap.size,0,none⟩)) none (some (.int .i64 (Lib.nDigits u:Int))) none).run prog W = .ok (.slice (some ⟨w.heap.size,0,none⟩) (Lib.nDigits u) 24) W:=λW=>by
   rw[run_sliceAt_array_h W 265 ⟨w.heap.size,0,none⟩ (by simp[Program.arrayLen,Program.elem,underlying265]) .i64 (Lib.nDigits u:Int) (by omega) (by rw[ia]; omega)];go_simp
  have IM:=Lib.holds_zero0 w 265 (Lib.nDigits u) (by omega);have OL:Calls prog 235 #[.slice (some ⟨w.heap.size,0,none⟩) (Array.replicate (Lib.nDigits u) (0:UInt8)).size 24,.int .u64 u] (w.alloc (.cells Lib.zeros24 265)) λe w'=>e = .returned (.tuple #[])/\∃ (n v':Nat) (dk:Array UInt8),w'=(putRow (λ(b:UInt8)=>Value.int .u8 (b.toNat:Int)) (w.alloc (.cells Lib.zeros24 265)) w.heap.size 0 dk).drewN n/\FmtInv (Array.replicate (Lib.nDigits u) (0:UInt8)).size u 0 v' dk:=Any.internal_strconv_formatBase10 { Tryz.laysM171 with } w.heap.size 0 24 u (Array.replicate (Lib.nDigits u) 0) (w.alloc (.cells Lib.zeros24 265)) IM (by rw[Array.size_replicate]; exact Lib.lt_pow_nDigits u) Cl (by rw[Array.size_replicate]; omega);rw[Array.size_replicate] at OL;have rl:=jq IM;clear IM ia;go_enter func190,ntmps190;go_wp2_with fail;refine (wO _ uj (Lib.tabIs_alloc Ci _)).mono ?_;rintro e w' ⟨rfl,rfl⟩;go_wp2_with fail;refine OL.mono ?_;rintro e w' ⟨rfl,k,v',dk,rfl,hF⟩;have hcv:(convert 169 9 (.slice (some ⟨w.heap.size,0,none⟩) (Lib.nDigits u) 24)).run prog ((putRow (λ(b:UInt8)=>Value.int .u8 (b.toNat:Int)) (w.alloc (.cells Lib.zeros24 265)) w.heap.size 0 dk).drewN k) = .ok (.string ⟨(Lib.decDigits u).toArray⟩) ((putRow (λ(b:UInt8)=>Value.int .u8 (b.toNat:Int)) (w.alloc (.cells Lib.zeros24 265)) w.heap.size 0 dk).drewN k):=by
   have h:=run_convert_bytes_back (P:=prog) ((putRow (λ(b:UInt8)=>Value.int .u8 (b.toNat:Int)) (w.alloc (.cells Lib.zeros24 265)) w.heap.size 0 dk).drewN k) 169 9 5 ⟨w.heap.size,0,none⟩ 24 (Lib.decDigits u) underlying169 underlying5 underlying9 (λj hj=>by
    rw[Lib.row_is_numeral hF j hj,Lib.add_plain,World.cell?_drewN];exact cell?_putRow (λ(b:UInt8)=>Value.int .u8 (b.toNat:Int)) _ w.heap.size 0 _ dk rl.out (by rw[hF.size,Array.size_replicate]) j (by rw[hF.size]; rw[Lib.decDigits_length] at hj; exact hj))
   rw[Lib.decDigits_length] at h;exact h
  go_wp2;go_ret;obtain⟨os,eo⟩:=Lib.fin_at w (.cells Lib.zeros24 265) dk k 0;exact⟨rfl,k,os,eo⟩
theorem W8(u:Nat)(Cl:u<18446744073709551616)(w:World)(Ci:Lib.TabIs prog w "internal/strconv.uint64pow10" .u64 Lib.pow10Tab) :
 Calls prog 121 #[.int .u64 u,.int .i64 10] w λe w'=>e = .returned (.string ⟨(Lib.decDigits u).toArray⟩)/\∃ k os,w'=grow (w.drewN k) os:=by
 go_enter func121,ntmps121;go_wp2_with fail;refine (W7 u Cl w Ci).mono ?_;rintro e w' ⟨rfl,k,os,rfl⟩;go_wp2_with fail;go_ret;exact⟨rfl,k,os,rfl⟩
end
end Go.Proofs.YtbfbobfbgabjiaaGreatDoor
