/- No condition. -/
import Derived.Test.YtadhigmjilijcaaGreatDoorA18
set_option linter.all false
set_option maxRecDepth 100000
set_option maxHeartbeats 8000000
namespace Go.Proofs.YtadhigmjilijcaaGreatDoor
section
open Go.RowKit Go.MapKept
def jP(r:Nat)(ks:List (List UInt8))(w:World):Prop:=∃ kvs,jR r kvs w/\∀ x,kvs.lookup x=if x∈ks then some (.bool true) else none
theorem jP.keep{r:Nat}{ks:List (List UInt8)}{w w':World}{n:Nat}(h:jP r ks w)(hb:Below n w w')(hn:r<n):jP r ks w':=by
 obtain⟨kvs,h1,h2⟩:=h;exact⟨kvs,h1.keep hb hn,h2⟩
theorem jP.lt{r:Nat}{ks:List (List UInt8)}{w:World}(h:jP r ks w):r<w.heap.size:=by
 obtain⟨kvs,h1,_⟩:=h;exact h1.lt
theorem jP.made(w:World):jP w.heap.size [] (w.alloc (.map #[] 0)):=⟨[],jR.made w,λx=>by simp⟩
theorem PL(x k:List UInt8)(v:Value):∀ kvs:List (List UInt8×Value),(kvs ++ [(k,v)]).lookup x=(kvs.lookup x).or (if x=k then some v else none)
 | []=>by
   rw[List.nil_append,List.lookup_cons];by_cases h:x=k
   ·subst h;simp
   ·have:(x == k)=false:=by simpa using h
    rw[this];simp[h]
 | (y,u)::kvs=>by
   rw[List.cons_append,List.lookup_cons,List.lookup_cons]
   cases (x == y) with
   | true=>rfl
   | false=>exact PL x k v kvs
section
variable {P:Program} {ops:Array Oper} {rest:List Oper} {o:Oper} {a:Act} {Q:Exit->Act->World->Prop}
theorem aPX(w:World)(hg:o.guard=none)(m x v:Operand)(t:TypeId)(xe:o.op=Op.mapUpdate t m x v)(kt et:TypeId)(ht:P.underlying t=some (.map kt et))(hk:P.underlying kt=some .string)
 (r:Nat) (ks:List (List UInt8)) (hm:a.eval m = .map (some r)) (hr:jP r ks w) (key:List UInt8) (hx:a.eval x=bl key) (hv:a.eval v = .bool true)
 (hK:∀ w',jP r (ks ++ [key]) w'->Turned r w w'->wpList P ops Q rest (a.put o.dst undef) w'):wpList P ops Q (o::rest) a w:=by
 obtain⟨kvs,hr,hl⟩:=hr;by_cases hin:key∈ks
 ·obtain⟨es,c,hr,he⟩:=hr;refine wpList_plain hg λK' hK'=>?_;have hc:(Instr.checkKey false 10000 kt (bl key)).run P w = .ok () w:=MapKept.run_checkKey (k:=bl key) hk (by simp[MapKept.IsKey]) false 9999;have af:r<w.heap.size:=(eQ.1 hr).1;obtain⟨j',hj'⟩:=(FA key es.toList kvs 0 he).1 (.bool true) (by rw[hl,QbQ hin]);rcases Xw key es.toList kvs 0 he with ⟨j,e,j1,j2,hf⟩ | hf
  ·rw[hj'] at hf;simp only[Option.some.injEq,Prod.mk.injEq,Nat.zero_add] at hf;obtain⟨rfl,hval⟩:=hf;have q8:(Instr.keyThatStays (((es[j']?).map (·.key)).getD (bl key)) (bl key)).run P w = .ok (bl key) w:=by
    rw[Array.getElem?_toList] at j1;rw[j1];simp only[Option.map_some,Option.getD_some];rw[j2];exact agQ _ P w
   have iD:(Instr.mapUpdate t (.map (some r)) (bl key) (.bool true)).run P w = .ok () { w with heap:=w.heap.setIfInBounds r (.map (es.modify j' λe=>{ e with key:=bl key,val:=.bool true }) c) }:=by
    simp[Instr.mapUpdate,run_underlying ht,MapKept.run_getObj_map hr,hc,MapKept.run_findKey hk hj',q8,MapKept.run_setObj_map _ hr,Result.andThen]
   unfold Oper.wp;simp[execOp,xe,hm,hx,hv,iD,Result.andThen];refine hK' _ _ (hK _ ⟨kvs,⟨es.modify j' λe=>{ e with key:=bl key,val:=.bool true },c,by simp[af],?_⟩,λx=>?_⟩ ⟨rfl,rfl,rfl,by simp,λi hi=>by simp[Ne.symm hi]⟩)
   ·rw[<-he];apply List.ext_getElem?;intro i;simp only[List.getElem?_map];rw[Array.toList_modify,List.getElem?_modify];by_cases mo:j'=i
    ·subst mo;rw[j1];simp[j2,<-hval]
    ·simp[mo]
   ·rw[hl];by_cases eP:x∈ks
    ·rw[QbQ eP,QbQ (by simp[eP])]
    ·have:x≠key:=λe=>eP (e ▸ hin)
     rw[Qc eP,Qc (by simp[eP,this])]
  ·rw[hj'] at hf;cases hf
 ·refine aQQ w hg m x v t xe kt et ht hk r kvs hm hr key hx (.bool true) hv (by rw[hl,Qc hin]) λw' h1 h2=>hK w' ⟨_,h1,λx=>?_⟩ h2;rw[PL,hl];by_cases eP:x∈ks
  ·rw[QbQ eP,QbQ (show x∈ks ++ [key] by simp[eP])];rfl
  ·by_cases rk:x=key
   ·rw[Qc eP,QbQ rk,QbQ (show x∈ks ++ [key] by simp[rk])];rfl
   ·rw[Qc eP,Qc rk,Qc (show ¬ x∈ks ++ [key] by simp[eP,rk])];rfl
end
theorem axJ{P:Program}(w:World)(t kt et:TypeId)(ht:P.underlying t=some (.map kt et))(hk:P.underlying kt=some .string)(r:Nat)(ks:List (List UInt8))(hr:jP r ks w)(key:List UInt8)(hz:(zeroValue et).run P w = .ok (.bool false) w) :
 (Instr.lookup t (.map (some r)) (bl key) false).run P w = .ok (.bool (ks.any λx=>x == key)) w:=by
 obtain⟨kvs,hr,hl⟩:=hr;rw[axK w t kt et ht hk r kvs hr key _ hz,hl];by_cases h:key∈ks
 ·rw[QbQ h,List.any_eq_true.2 ⟨key,h,by simp⟩];rfl
 ·rw[Qc h,List.any_eq_false.2 (λx hx=>by simp;rintro rfl;exact h hx)];rfl
end
end Go.Proofs.YtadhigmjilijcaaGreatDoor
