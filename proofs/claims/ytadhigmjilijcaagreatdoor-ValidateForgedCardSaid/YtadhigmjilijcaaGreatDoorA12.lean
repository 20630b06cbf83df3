/- No condition. -/
import Derived.Test.YtadhigmjilijcaaGreatDoorA06
import Derived.Test.YtadhigmjilijcaaGreatDoorA08
set_option linter.all false
set_option maxRecDepth 100000
set_option maxHeartbeats 8000000
namespace Go.Proofs.YtadhigmjilijcaaGreatDoor
open Go.Proofs.Tryz
section
open Go.RowKit
theorem Qu{c:UInt8}{r:List UInt8}(hc:c≠46):∃ x xs,Np.aR (c::r)=(c::x)::xs:=by
 unfold Np.aR;rw[Qc hc]
 cases Np.aR r with
 | nil=>exact⟨[],[],rfl⟩
 | cons x xs=>exact⟨x,xs,rfl⟩
def iR(base:Nat)(w:World)(v:Value)(ps:List (List UInt8)):Prop:=w.ownsRow base 9 1 v ps.length (ps.map bl)
theorem iR.form{base:Nat}{w:World}{v:Value}{ps:List (List UInt8)}(h:iR base w v ps):∃ A c,v = .slice A ps.length c:=rz h
theorem iR.alloc{base:Nat}{w:World}{v:Value}{ps:List (List UInt8)}(h:iR base w v ps)(o:Obj):iR base (w.alloc o) v ps:=World.ownsRow.alloc h o
theorem iR.keep{base:Nat}{w w':World}{v:Value}{ps:List (List UInt8)}(h:iR base w v ps)(hb:Below w.heap.size w w'):iR base w' v ps:=vl h (λg hg=>hb.block g (h.lt g hg).2)
theorem iR.slr{base:Nat}{w:World}{v:Value}{ps:List (List UInt8)}(h:iR base w v ps)(hl:ps.length<=140737488355328)(au:∀ x∈ps,x.length<=140737488355328):SlR RTx 1 w w.heap.size v ps:=by
 refine IB (sz:=1) (e:=9) (base:=base) (λx=>[bl x]) (λ_ _=>rfl) ?_ hl (λx hx=>⟨⟨x.toArray⟩,by simp,au x hx,rfl⟩)
 have:w.ownsRow base 9 1 v ps.length (ps.map bl):=h
 simpa [H7] using this
section
variable {ops:Array Oper} {rest:List Oper} {o:Oper} {a:Act} {Q:Exit->Act->World->Prop}
theorem aPK(w:World)(il:o.guard=none)(s x:Operand)(ho:o.op = .call { callee:=.builtin .append,args:=#[s,x],argTypes:=#[102,102] })
 (base:Nat) (v:Value) (ps:List (List UInt8)) (hs:a.eval s=v) (hown:iR base w v ps) (blk:Nat) (y:List UInt8) (hx:a.eval x = .slice (some ⟨blk,0,none⟩) 1 1) (hc:w.cell? ⟨blk,0,none⟩=some (bl y)) (hlen:ps.length<=100000) (ig:base<=w.heap.size)
 (h:∀ v' w',iR base w' v' (ps ++ [y])->Below base w w'->wpList prog ops Q rest (a.put o.dst v') w'):wpList prog ops Q (o::rest) a w:=by
 obtain⟨i0,hi,cH,bx,cr⟩:=info_parts Tryz.infoStr;refine wpList_append_own_at w il s x 102 ho base 9 i0 (.string ⟨#[]⟩) 1 16 underlying102 hi cH bx cr rfl (by decide) v ps.length (ps.map bl) hs hown ⟨blk,0,none⟩ 1 1 [bl y] hx rfl ?_ (by simp[Value.oneCell']) (by unfold maxLen;omega) (by omega) ig ?_
 ·intro j u hj
  cases j with
  | zero=>simp at hj;subst hj;simpa [Addr.add] using hc
  | succ j=>simp at hj
 ·intro v' w' ho' hg _ _;refine h v' w' ?_ ((vQ _ _).grown hg ig (λk hk=>(hown.lt k hk).1));have e:(ps ++ [y]).length=ps.length+1:=by simp
  unfold iR;rw[e,List.map_append];exact ho'
end
end
namespace Np
def jC(c:Copy):Int×List UInt8:=(c.host,c.zone.apex)
def fA(l:List Copy)(p:Int×List UInt8):List Span:=(l.filter λc=>decide (jC c=p)).map nO
theorem MT(l:List Copy)(c:Copy)(p:Int×List UInt8):fA (l ++ [c]) p=if jC c=p then fA l p ++ [nO c] else fA l p:=by
 unfold fA;rw[List.filter_append];by_cases h:jC c=p
 ·simp[h]
 ·simp[h]
theorem MS{l:List Copy}{p:Int×List UInt8}(h:∀ c∈l,jC c≠p):fA l p = []:=by
 unfold fA;rw[List.filter_eq_nil_iff.2 (λc hc=>by simpa using h c hc)];rfl
structure GrpI(kvs:List ((Int×List UInt8)×List Span))(l:List Copy):Prop where
 nodup:(kvs.map (·.1)).Nodup
 each:∀ x∈kvs,x.2=fA l x.1
 all:∀ c∈l,jC c∈kvs.map (·.1)
theorem GrpI.nil:GrpI [] []:=⟨by simp,λx hx=>(by cases hx),λc hc=>(by cases hc)⟩
theorem GrpI.new{kvs:List ((Int×List UInt8)×List Span)}{l:List Copy}(h:GrpI kvs l){c:Copy}(hn:jC c∉kvs.map (·.1)):GrpI (kvs ++ [(jC c,[nO c])]) (l ++ [c]):=by
 have h0:fA l (jC c) = []:=MS λd hd e=>hn (by rw[<-e];exact h.all d hd);refine⟨?_,λx hx=>?_,λd hd=>?_⟩
 ·rw[List.map_append,List.nodup_append];refine⟨h.nodup,by simp,λa ha b hb e=>?_⟩;simp at hb;subst hb;subst e;exact hn ha
 ·rcases List.mem_append.1 hx with hx | hx
  ·rw[MT,Qc]
   ·exact h.each x hx
   ·intro e;exact hn (by rw[e];exact List.mem_map.2 ⟨x,hx,rfl⟩)
  ·rw[List.mem_singleton] at hx;subst hx;rw[MT,QbQ rfl,h0];rfl
 ·rw[List.map_append];rcases List.mem_append.1 hd with hd | hd
  ·exact List.mem_append_left _ (h.all d hd)
  ·rw[List.mem_singleton] at hd;subst hd;simp
def yI(a b:Span):Prop:=a.frm<b.til/\b.frm<a.til
theorem yI.symm{a b:Span}(h:yI a b):yI b a:=⟨h.2,h.1⟩
theorem XR(l:List Copy):(l.Pairwise λc d=>¬ D7 c d)↔∀ p,(fA l p).Pairwise λa b=>¬ yI a b:=by
 induction l with
 | nil=>simp[fA]
 | cons c l ih=>
  rw[List.pairwise_cons,ih];constructor
  ·rintro⟨h1,h2⟩ p;by_cases hp:jC c=p
   ·have e:fA (c::l) p=nO c::fA l p:=by unfold fA;simp[hp]
    rw[e,List.pairwise_cons];refine⟨λs hs=>?_,h2 p⟩;obtain⟨d,hd,rfl⟩:=List.mem_map.1 hs;obtain⟨fw,fS⟩:=List.mem_filter.1 hd;have hk:jC d=jC c:=by rw[hp];simpa using fS
    intro ho;unfold jC at hk;simp only[Prod.mk.injEq] at hk;exact h1 d fw ⟨hk.1.symm,hk.2.symm,ho.1,ho.2⟩
   ·have e:fA (c::l) p=fA l p:=by unfold fA;simp[hp]
    rw[e];exact h2 p
  ·intro h;refine⟨λd hd jr=>?_,λp=>?_⟩
   ·have h1:=h (jC c);have e:fA (c::l) (jC c)=nO c::fA l (jC c):=by unfold fA;simp
    rw[e,List.pairwise_cons] at h1;refine h1.1 (nO d) (List.mem_map.2 ⟨d,List.mem_filter.2 ⟨hd,?_⟩,rfl⟩) ⟨jr.2.2.1,jr.2.2.2⟩;unfold jC;simp[jr.1,jr.2.1]
   ·have h1:=h p;by_cases hp:jC c=p
    ·have e:fA (c::l) p=nO c::fA l p:=by unfold fA;simp[hp]
     rw[e,List.pairwise_cons] at h1;exact h1.2
    ·have e:fA (c::l) p=fA l p:=by unfold fA;simp[hp]
     rwa [e] at h1
theorem GrpI.ok{kvs:List ((Int×List UInt8)×List Span)}{l:List Copy}(h:GrpI kvs l):(l.Pairwise λc d=>¬ D7 c d)↔∀ x∈kvs,x.2.Pairwise λa b=>¬ yI a b:=by
 rw[XR];constructor
 ·intro h1 x hx;rw[h.each x hx];exact h1 _
 ·intro h1 p;by_cases hp:p∈kvs.map (·.1)
  ·obtain⟨x,hx,rfl⟩:=List.mem_map.1 hp;rw[<-h.each x hx];exact h1 x hx
  ·rw[MS λc hc e=>hp (by rw[<-e];exact h.all c hc)];exact List.Pairwise.nil
end Np
section
open Go.RowKit


end
end Go.Proofs.YtadhigmjilijcaaGreatDoor
