/- Parts of the proof. No condition. -/
import Derived.IntWalk
import Derived.Maps.Own
import Derived.WideMake
import Derived.Laws.StructEq
import Derived.Lib.Builder
import Derived.Lib.UnsafeStr
import Derived.Laws.Externs
import Derived.Laws.EntriesVeiled
import Derived.RegionTactic
import Derived.Test.YtbfbobfbgabjiaaGreatDoorP06
set_option linter.all false
set_option maxRecDepth 100000
set_option maxHeartbeats 8000000
namespace Go.Proofs.YtbfbobfbgabjiaaGreatDoor
open Go.Proofs.Tryz
section
open Go.RowKit
theorem aGY(l:List UInt8):Np.aR (l ++ [46])=Np.aR l ++ [[]]:=Np.CK l []
theorem aHQ:∀ (l:List UInt8) (c:UInt8) (pre:List (List UInt8)) (x:List UInt8),c≠46->Np.aR l=pre ++ [x]->Np.aR (l ++ [c])=pre ++ [x ++ [c]]:=by
 intro l
 induction l with
 | nil=>
  intro c pre x hc h;have h2:([[]]:List (List UInt8))=pre ++ [x]:=h
  cases pre with
  | nil=>simp at h2; subst h2; simp[Np.aR,hc]
  | cons a pre=>simp at h2
 | cons a r ih=>
  intro c pre x hc h;rw[List.cons_append];rw[Np.aR] at h |-;by_cases ha:a=46
  ·rw[Qb ha] at h |-
   cases pre with
   | nil=>simp at h; exact absurd h.2 (Np.qY r)
   | cons b pre=>
    simp only[List.cons_append,List.cons.injEq] at h;rw[ih c pre x hc h.2,<-h.1]; rfl
  ·rw[Qc ha] at h |-;have hne:=Np.qY r
   cases hr:Np.aR r with
   | nil=>exact absurd hr hne
   | cons y ys=>
    rw[hr] at h;simp only at h
    cases pre with
    | nil=>
     simp only[List.nil_append,List.cons.injEq] at h;obtain⟨rfl,rfl⟩:=h;rw[ih c [] y hc (by rw[hr]; rfl)]; rfl
    | cons b pre=>
     simp only[List.cons_append,List.cons.injEq] at h;obtain⟨rfl,rfl⟩:=h;rw[ih c (y::pre) x hc (by rw[hr]; rfl)]; rfl
def RSt(_:World)(_:Nat)(e:List Value)(x:List UInt8):Prop:=e = [aA x]
theorem Fx:dw RSt:=λ_ _ _ _ _ h _=>h
theorem Rd:dN RSt:=λ_ _ _ _ _ h _=>h
def xw{α:Type}(R:World->Nat->List Value->α->Prop)(sz:Nat)(w:World)(xs:List α)(e:Ending)(w':World):Prop:=∃ v,e = .returned v/\SlR R sz w' w'.heap.size v xs/\Below w.heap.size w w'
theorem anK{W:World}{base:Nat}{e:TypeId}{g cap n:Nat}{xs:List Value}(h:W.ownsRow base e 1 (.slice (some ⟨g,0,none⟩) n cap) n xs)(j:Nat)(hj:j<n)(u:Value) :
 W.cell? ⟨g,j,none⟩=xs[j]?/\W.frozen? ⟨g,j,none⟩=false/\g<W.heap.size/\base<=g/\(W.setCell ⟨g,j,none⟩ u).ownsRow base e 1 (.slice (some ⟨g,0,none⟩) n cap) n (xs.set j u):=by
 obtain⟨h1,h2⟩:=h;rcases h2 with ⟨h2,_⟩ | ⟨g',cap',cur,h2,hb,hg,hn,hm,hs,ht⟩
 ·cases h2
 ·simp only[Value.slice.injEq,Option.some.injEq,Addr.mk.injEq,and_true,true_and] at h2;obtain⟨rfl,rfl⟩:=h2;have aa:=(eQ.1 hg).1;refine⟨?_,?_,aa,hb,by simpa using h1,.inr ⟨g,cap,cur.setIfInBounds j u,rfl,hb,?_,hn,hm,by simpa using hs,?_⟩⟩
  ·rw[<-ht];simp only[World.cell?,hg,Option.isSome_none,Bool.false_eq_true,if_false,List.getElem?_take];rw[Qb (by omega)]; simp
  ·simp[World.frozen?,hg]
  ·simp only[World.setCell,Array.getElem?_modify,if_true,hg]; simp
  ·rw[<-ht,Array.toList_setIfInBounds,List.take_set]
theorem Tryz.infoStr:(prog.info? 9).map (λi=>(i.zero,i.size,i.bytes))=some (some (.string ⟨#[]⟩),1,16):=by kernel_rfl
def U4(s:ByteArray)(w:World)(v i:Value)(wr:World):Prop:=
 ∃ (k:Nat) (pre:List (List UInt8)) (x:List UInt8),k<=s.size/\i = .int .i64 k/\Np.aR (s.data.toList.take k)=pre ++ [x]/\pre.length<=k/\wr.ownsRow w.heap.size 9 1 v (pre.length+1) (pre.map aA ++ [aA x])/\Below w.heap.size w wr
theorem aIZ(x:List UInt8)(s:ByteArray)(k:Nat)(hk:k<s.size):Value.string ((⟨x.toArray⟩:ByteArray)++s.extract k (k+1))=aA (x ++ [s[k]]):=by
 show Value.string _=Value.string _;congr 1;apply iM
 have:(s.extract k (k+1)).data.toList = [s[k]]:=by
  rw[Iz,KV s k hk,List.drop_append_of_le_length (by rw[List.length_take,aT]; omega),List.drop_of_length_le (by rw[List.length_take,aT]; omega),List.nil_append]
 rw[ByteArray.data_append,Array.toList_append,this]
theorem Q4(s:ByteArray)(hs:s.size<=1000000)(w:World):Calls prog 79 #[.string s] w (xw RSt 1 w (Np.aR s.data.toList)):=by
 obtain⟨i0,hi,fS,bL,aM⟩:=info_parts Tryz.infoStr;go_enter func79,ntmps79;go_wp2;go_loopw [3,4] (λv i wr=>U4 s w v i wr) (λ_ i _=>s.size - (intOf i).toNat)
 case atStart=>
  refine⟨0,[],[],jQ _,rfl,rfl,bQ _,⟨rfl,.inr ⟨w.heap.size,1,#[.string ⟨#[]⟩],rfl,bQ _,heap_alloc_new _ _,by simp,by simp[maxLen],rfl,rfl⟩⟩,(vQ _ _).alloc (bQ _) _⟩
 case round=>
  obtain⟨k,pre,x,hk,rfl,uh,kF,hown,hB⟩:=hrel;obtain⟨g,cap,rfl⟩:=ownsRow_succ hown;have am:=hB.size;have HB:=jq hB;have HO:=jq hown;have HS:=jq uh;clear hB hown uh;by_cases aa:k<s.size
  ·have hb:=zo s[k];have PF:=KV s k aa;have HT:=jq PF;clear PF;by_cases Bb:(s[k].toNat:Int)=46
   ·have he:((s[k].toNat:Int) == 46)=true:=by simp[Bb]
    have hc:s[k]=46:=by
     apply UInt8.toNat_inj.1
     have:s[k].toNat=46:=by omega
     rw[this]; rfl
    have HC:=jq hc;clear hc Bb;go_wp2_with (at_builtin; refine wpList_append_own_at _ rfl _ _ 38 rfl w.heap.size 9 i0 (.string ⟨#[]⟩) 1 16 underlying38 hi fS bL aM rfl (by decide) _ _ _ rfl (HO.out.alloc _) ⟨wr.heap.size,0,none⟩ 1 1 [.string ⟨#[]⟩] rfl rfl (cell_one_new _ _ _) (by simp[Value.oneCell']) (by unfold maxLen; omega) (by omega) (by simp; omega) ?_; intro v1 w1 Ph tK _ XS; have H1:=jq (And.intro Ph tK); clear Ph tK XS);go_roundw
    case rel=>
     obtain⟨o1,g1⟩:=H1.out;have Ex:=(HO.out.lt g rfl).1;refine⟨k+1,pre ++ [x],[],by omega,by go_num,?_,by simp; omega,?_,?_⟩
     ·rw[HT.out,HC.out,aGY,HS.out]
     ·simpa using o1
     ·exact (HB.out.alloc (by omega) _).grown g1 (by simp; omega) (λj hj=>by have e:g=j:=Option.some.inj hj; omega)
    case measure=>simp[intOf] <;> omega
   ·have he:((s[k].toNat:Int) == 46)=false:=by simp[Bb]
    have hc:s[k]≠46:=λe=>Bb (by rw[e]; rfl);have HC:=jq hc;clear hc Bb;obtain⟨q1,q2,q3,q4,q5⟩:=anK HO.out pre.length (by omega) (aA (x ++ [s[k]]));have hcell:wr.cell? ⟨g,pre.length,none⟩=some (aA x):=by rw[q1]; simp
    have He:=jq q5;have oC:=aIZ x s k aa;clear q1 q5;have ul:x.length<=k:=by
     have h1:=Np.KP (l:=s.data.toList.take k) (y:=x) (by rw[HS.out]; simp);rw[List.length_take] at h1; omega
    have ig:¬ 9223372036854775807<x.length+(min (k+1) s.size - k):=by omega
    have ak:IntKind.i64.wrap (pre.length:Int)=pre.length:=IntWalk.i64_in _ (by omega);have aj:IntKind.i64.wrap ((k:Int)+1)=k+1:=IntWalk.i64_in _ (by omega);have yI:(0:Int)<=(pre.length:Int):=by omega
    have hp1:(pre.length:Int)<(pre.length:Int)+1:=by omega
    have bH:(0:Int)<=(k:Int):=by omega
    have bG:(k:Int)+1<=(s.size:Int):=by omega
    have kA:((k:Int)+1).toNat=k+1:=by omega
    have mH:(0:Int)<=(k:Int)+1:=by omega
    have j9:(k:Int)<=(k:Int)+1:=by omega
    go_wp2_with fail;refine R6 17 (by kernel_rfl) (by kernel_rfl) ?_;simp only[List.take_succ_cons,List.take_zero,List.drop_succ_cons,List.drop_zero]
    iterate 17 still_step
    refine wpStill_nil ?_;go_wp2_with fail;go_roundw
    case rel=>
     refine⟨k+1,pre,x ++ [s[k]],by omega,by go_num,?_,by omega,?_,?_⟩
     ·rw[HT.out]; exact aHQ _ _ _ _ HC.out HS.out
     ·have h5:(wr.setCell ⟨g,pre.length,none⟩ (aA (x ++ [s[k]]))).ownsRow w.heap.size 9 1 (.slice (some ⟨g,0,none⟩) (pre.length+1) cap) (pre.length+1) (pre.map aA ++ [aA (x ++ [s[k]])]):=by
       have:=He.out
       simpa using this
      exact h5
     ·exact (HB.out.setCell (p:=⟨g,pre.length,none⟩) q4 _).drew
    case measure=>simp[intOf] <;> omega
  ·go_wp2_with fail;go_ret;refine⟨_,rfl,?_,HB.out⟩;have az:Np.aR s.data.toList=pre ++ [x]:=by have:=HS.out; rwa [FG s k (by omega)] at this
   rw[az];refine KJ (sz:=1) (e:=9) (base:=w.heap.size) (λx=>[aA x]) (λ_ _=>rfl) ?_ (by simp; omega) (λ_ _=>rfl)
   have:=HO.out
   simpa [Qt] using this
theorem aFK{α:Type}{R:World->Nat->List Value->α->Prop}{sz:Nat}(w:World)(B:Nat):SlR R sz w B (.slice none 0 0) []:=⟨none,0,rfl,by simp,by simp,λi x h=>by simp at h⟩
theorem CF(s:ByteArray)(hs:s.size<=1000000)(w:World):Calls prog 162 #[.string s] w (xw RSt 1 w (Np.eB s.data.toList)):=by
 by_cases h:s.data.toList = [46]
 ·have he:(s.toList == [46])=true:=by rw[dQ,h]; rfl
  have hp:Np.eB s.data.toList = []:=by rw[Np.eB,Qb h]
  rw[hp];clear h hp;go_enter func162,ntmps162;go_wp2_with fail;go_ret;exact⟨_,rfl,aFK _ _,vQ _ _⟩
 ·have he:(s.toList == [46])=false:=by rw[dQ]; simpa using h
  have hp:Np.eB s.data.toList=Np.aR s.data.toList:=by rw[Np.eB,Qc h]
  rw[hp];clear h hp;go_enter func162,ntmps162;go_wp2_with fail;refine (Q4 s hs _).mono ?_;rintro e w1 ⟨v,rfl,hv,hb⟩;have HV:=jq (And.intro hv hb);clear hv hb;go_wp2_with fail;go_ret;exact⟨_,rfl,HV.out⟩
theorem CL{w:World}{B:Nat}{v:Value}{xs:List (List UInt8)}(h:SlR RSt 1 w B v xs){k:Nat}{x:List UInt8}(hx:xs[k]?=some x):∃ b o c,v = .slice (some ⟨b,o,none⟩) xs.length c/\b<B/\xs.length<=c/\w.cell? ⟨b,o+k,none⟩=some (aA x):=by
 obtain⟨A,c,rfl,hc,_,he⟩:=h;obtain⟨b,o,e,rfl,hb,_,hce,rfl⟩:=he k x hx;exact⟨b,o,c,rfl,hb,hc,by have:=hce 0 _ rfl; simpa using this⟩
end
section
open Go.RowKit Go.MapKept
def dM(r:Nat)(kvs:List (List UInt8×Value))(w:World):Prop:=∃ es c,w.heap[r]?=some (.map es c)/\es.toList.map (λe=>(e.key,e.val))=kvs.map λp=>(aA p.1,p.2)
theorem dM.lt{r:Nat}{kvs:List (List UInt8×Value)}{w:World}(h:dM r kvs w):r<w.heap.size:=by
 obtain⟨es,c,h,_⟩:=h;exact (eQ.1 h).1
theorem dM.keep{r:Nat}{kvs:List (List UInt8×Value)}{w w':World}{n:Nat}(h:dM r kvs w)(hb:Below n w w')(hn:r<n):dM r kvs w':=by
 obtain⟨es,c,h,h2⟩:=h;exact⟨es,c,(hb.block r hn).trans h,h2⟩
theorem dM.made(w:World):dM w.heap.size [] (w.alloc (.map #[] 0)):=⟨#[],0,heap_alloc_new _ _,rfl⟩
theorem RF(x y:List UInt8):((⟨x.toArray⟩:ByteArray) == ⟨y.toArray⟩)=(x == y):=by
 have h:((⟨x.toArray⟩:ByteArray) == ⟨y.toArray⟩)=(x.toArray == y.toArray):=rfl;rw[h,List.beq_toArray]
theorem DP(x:List UInt8):∀ (es:List MapEntry) (kvs:List (List UInt8×Value)) (i:Nat),es.map (λe=>(e.key,e.val))=kvs.map (λp=>(aA p.1,p.2))->
 (∀ v,kvs.lookup x=some v->∃ j,Instr.findNow .string (aA x) es i=some (some (j,v)))/\(kvs.lookup x=none->Instr.findNow .string (aA x) es i=some none):=by
 intro es
 induction es with
 | nil=>
  intro kvs i h
  cases kvs with
  | nil=>exact⟨λv hv=>by simp at hv,λ_=>rfl⟩
  | cons=>simp at h
 | cons e es ih=>
  intro kvs i h
  cases kvs with
  | nil=>simp at h
  | cons p kvs=>
   obtain⟨y,u⟩:=p;simp only[List.map_cons,List.cons.injEq,Prod.mk.injEq] at h;obtain⟨⟨h1,h2⟩,h3⟩:=h;have hs:Instr.sameNow .string (aA x) e.key=some (x == y):=by rw[h1]; simp only[Instr.sameNow]; rw[RF]
   by_cases bB:x=y
   ·subst bB;have hb:(x == x)=true:=by simp
    rw[hb] at hs;refine⟨λv hv=>⟨i,?_⟩,λhv=>?_⟩
    ·rw[List.lookup_cons_self] at hv;simp only[Instr.findNow,hs]
     cases hv
     rw[h2]
    ·rw[List.lookup_cons_self] at hv; cases hv
   ·have hb:(x == y)=false:=by simpa using bB
    rw[hb] at hs;have hl:((y,u)::kvs).lookup x=kvs.lookup x:=by rw[List.lookup_cons,hb]
    rw[hl];obtain⟨i1,i2⟩:=ih kvs (i+1) h3;refine⟨λv hv=>?_,λhv=>?_⟩
    ·obtain⟨j,hj⟩:=i1 v hv;exact⟨j,by simp only[Instr.findNow,hs]; exact hj⟩
    ·simp only[Instr.findNow,hs]; exact i2 hv
section
variable {P:Program} {ops:Array Oper} {rest:List Oper} {o:Oper} {a:Act} {Q:Exit->Act->World->Prop}
theorem R3(w:World)(hg:o.guard=none)(m x v:Operand)(t:TypeId)(kb:o.op=Op.mapUpdate t m x v)(kt et:TypeId)(ht:P.underlying t=some (.map kt et))(hk:P.underlying kt=some .string)
 (r:Nat) (kvs:List (List UInt8×Value)) (hm:a.eval m = .map (some r)) (hr:dM r kvs w) (key:List UInt8) (hx:a.eval x=aA key) (val:Value) (hv:a.eval v=val) (ig:kvs.lookup key=none)
 (hK:∀ w',dM r (kvs ++ [(key,val)]) w'->Turned r w w'->wpList P ops Q rest (a.put o.dst undef) w'):wpList P ops Q (o::rest) a w:=by
 obtain⟨es,c,hr,he⟩:=hr;have hf:=(DP key es.toList kvs 0 he).2 ig;refine wpList_plain hg λK' hK'=>?_;have hc:(Instr.checkKey false 10000 kt (aA key)).run P w = .ok () w:=MapKept.run_checkKey (k:=aA key) hk (by simp[MapKept.IsKey]) false 9999;have dp:(Instr.mapUpdate t (.map (some r)) (aA key) val).run P w = .ok () { w with heap:=w.heap.setIfInBounds r (.map (es.push { key:=aA key,val:=val,born:=c }) (c+1)) }:=by
  simp[Instr.mapUpdate,run_underlying ht,MapKept.run_getObj_map hr,hc,MapKept.run_findKey hk hf,MapKept.run_setObj_map _ hr,Result.andThen]
 unfold Oper.wp;simp[execOp,kb,hm,hx,hv,dp,Result.andThen];have hl:r<w.heap.size:=(eQ.1 hr).1;refine hK' _ _ (hK _ ⟨_,_,by simp[hl]; exact⟨rfl,rfl⟩,by simp[he]⟩ ⟨rfl,rfl,rfl,by simp,λi hi=>by simp[Ne.symm hi]⟩)
theorem KF(w:World)(t kt et:TypeId)(ht:P.underlying t=some (.map kt et))(hk:P.underlying kt=some .string)(r:Nat)(kvs:List (List UInt8×Value))(hr:dM r kvs w)(key:List UInt8)(z:Value)(hz:(zeroValue et).run P w = .ok z w) :
 (Instr.lookup t (.map (some r)) (aA key) false).run P w = .ok ((kvs.lookup key).getD z) w:=by
 obtain⟨es,c,hr,he⟩:=hr;have hf:=DP key es.toList kvs 0 he;have hc:∀ b,(Instr.checkKey b 10000 kt (aA key)).run P w = .ok () w:=λb=>MapKept.run_checkKey (k:=aA key) hk (by simp[MapKept.IsKey]) b 9999
 cases hl:kvs.lookup key with
 | none=>simp[Instr.lookup,run_underlying ht,MapKept.run_getObj_map hr,hc,MapKept.run_findKey hk (hf.2 hl),Result.andThen,hz]
 | some v=>
  obtain⟨j,hj⟩:=hf.1 v hl;simp[Instr.lookup,run_underlying ht,MapKept.run_getObj_map hr,hc,MapKept.run_findKey hk hj,Result.andThen]
end
def m9(r:Nat)(kvs:List (Int×Value))(w:World):Prop:=∃ es c,w.heap[r]?=some (.map es c)/\es.toList.map (λe=>(e.key,e.val))=kvs.map λp=>(Value.int .i64 p.1,p.2)
theorem m9.lt{r:Nat}{kvs:List (Int×Value)}{w:World}(h:m9 r kvs w):r<w.heap.size:=by
 obtain⟨es,c,h,_⟩:=h;exact (eQ.1 h).1
theorem m9.keep{r:Nat}{kvs:List (Int×Value)}{w w':World}{n:Nat}(h:m9 r kvs w)(hb:Below n w w')(hn:r<n):m9 r kvs w':=by
 obtain⟨es,c,h,h2⟩:=h;exact⟨es,c,(hb.block r hn).trans h,h2⟩
theorem m9.made(w:World):m9 w.heap.size [] (w.alloc (.map #[] 0)):=⟨#[],0,heap_alloc_new _ _,rfl⟩
theorem NJ(x:Int):∀ (es:List MapEntry) (kvs:List (Int×Value)) (i:Nat),es.map (λe=>(e.key,e.val))=kvs.map (λp=>(Value.int .i64 p.1,p.2))->
 (∀ v,kvs.lookup x=some v->∃ j,Instr.findNow (.int .i64) (.int .i64 x) es i=some (some (j,v)))/\(kvs.lookup x=none->Instr.findNow (.int .i64) (.int .i64 x) es i=some none):=by
 intro es
 induction es with
 | nil=>
  intro kvs i h
  cases kvs with
  | nil=>exact⟨λv hv=>by simp at hv,λ_=>rfl⟩
  | cons=>simp at h
 | cons e es ih=>
  intro kvs i h
  cases kvs with
  | nil=>simp at h
  | cons p kvs=>
   obtain⟨y,u⟩:=p;simp only[List.map_cons,List.cons.injEq,Prod.mk.injEq] at h;obtain⟨⟨h1,h2⟩,h3⟩:=h;have hs:Instr.sameNow (.int .i64) (.int .i64 x) e.key=some (x == y):=by rw[h1]; simp[Instr.sameNow]
   by_cases bB:x=y
   ·subst bB;have hb:(x == x)=true:=by simp
    rw[hb] at hs;refine⟨λv hv=>⟨i,?_⟩,λhv=>?_⟩
    ·rw[List.lookup_cons_self] at hv;simp only[Instr.findNow,hs]
     cases hv
     rw[h2]
    ·rw[List.lookup_cons_self] at hv; cases hv
   ·have hb:(x == y)=false:=by simpa using bB
    rw[hb] at hs;have hl:((y,u)::kvs).lookup x=kvs.lookup x:=by rw[List.lookup_cons,hb]
    rw[hl];obtain⟨i1,i2⟩:=ih kvs (i+1) h3;refine⟨λv hv=>?_,λhv=>?_⟩
    ·obtain⟨j,hj⟩:=i1 v hv;exact⟨j,by simp only[Instr.findNow,hs]; exact hj⟩
    ·simp only[Instr.findNow,hs]; exact i2 hv
section
variable {P:Program} {ops:Array Oper} {rest:List Oper} {o:Oper} {a:Act} {Q:Exit->Act->World->Prop}
theorem aQX(w:World)(hg:o.guard=none)(m x v:Operand)(t:TypeId)(kb:o.op=Op.mapUpdate t m x v)(kt et:TypeId)(ht:P.underlying t=some (.map kt et))(hk:P.underlying kt=some (.int .i64))
 (r:Nat) (kvs:List (Int×Value)) (hm:a.eval m = .map (some r)) (hr:m9 r kvs w) (key:Int) (hx:a.eval x = .int .i64 key) (val:Value) (hv:a.eval v=val) (ig:kvs.lookup key=none)
 (hK:∀ w',m9 r (kvs ++ [(key,val)]) w'->Turned r w w'->wpList P ops Q rest (a.put o.dst undef) w'):wpList P ops Q (o::rest) a w:=by
 obtain⟨es,c,hr,he⟩:=hr;have hf:=(NJ key es.toList kvs 0 he).2 ig;refine wpList_plain hg λK' hK'=>?_;have hc:(Instr.checkKey false 10000 kt (.int .i64 key)).run P w = .ok () w:=MapKept.run_checkKey (k:=.int .i64 key) hk (by simp[MapKept.IsKey]) false 9999;have dp:(Instr.mapUpdate t (.map (some r)) (.int .i64 key) val).run P w = .ok () { w with heap:=w.heap.setIfInBounds r (.map (es.push { key:=.int .i64 key,val:=val,born:=c }) (c+1)) }:=by
  simp[Instr.mapUpdate,run_underlying ht,MapKept.run_getObj_map hr,hc,MapKept.run_findKey hk hf,MapKept.run_setObj_map _ hr,Result.andThen]
 unfold Oper.wp;simp[execOp,kb,hm,hx,hv,dp,Result.andThen];have hl:r<w.heap.size:=(eQ.1 hr).1;refine hK' _ _ (hK _ ⟨_,_,by simp[hl]; exact⟨rfl,rfl⟩,by simp[he]⟩ ⟨rfl,rfl,rfl,by simp,λi hi=>by simp[Ne.symm hi]⟩)
theorem aBJ(w:World)(t kt et:TypeId)(ht:P.underlying t=some (.map kt et))(hk:P.underlying kt=some (.int .i64))(r:Nat)(kvs:List (Int×Value))(hr:m9 r kvs w)(key:Int)(z:Value)(hz:(zeroValue et).run P w = .ok z w) :
 (Instr.lookup t (.map (some r)) (.int .i64 key) false).run P w = .ok ((kvs.lookup key).getD z) w:=by
 obtain⟨es,c,hr,he⟩:=hr;have hf:=NJ key es.toList kvs 0 he;have hc:∀ b,(Instr.checkKey b 10000 kt (.int .i64 key)).run P w = .ok () w:=λb=>MapKept.run_checkKey (k:=.int .i64 key) hk (by simp[MapKept.IsKey]) b 9999
 cases hl:kvs.lookup key with
 | none=>simp[Instr.lookup,run_underlying ht,MapKept.run_getObj_map hr,hc,MapKept.run_findKey hk (hf.2 hl),Result.andThen,hz]
 | some v=>
  obtain⟨j,hj⟩:=hf.1 v hl;simp[Instr.lookup,run_underlying ht,MapKept.run_getObj_map hr,hc,MapKept.run_findKey hk hj,Result.andThen]
end
def pP(p:Int×List UInt8):Value:=.agg #[.int .i64 p.1,aA p.2]
def jO(r:Nat)(kvs:List ((Int×List UInt8)×Value))(w:World):Prop:=∃ es,w.heap[r]?=some (.map es es.size)/\es.toList.map (λe=>(e.key,e.val))=kvs.map (λp=>(pP p.1,p.2))/\∀ (i:Nat) (e:MapEntry),es[i]?=some e->e.born=i
theorem jO.lt{r:Nat}{kvs:List ((Int×List UInt8)×Value)}{w:World}(h:jO r kvs w):r<w.heap.size:=by
 obtain⟨es,h,_⟩:=h;exact (eQ.1 h).1
theorem jO.keep{r:Nat}{kvs:List ((Int×List UInt8)×Value)}{w w':World}{n:Nat}(h:jO r kvs w)(hb:Below n w w')(hn:r<n):jO r kvs w':=by
 obtain⟨es,h,h2⟩:=h;exact⟨es,(hb.block r hn).trans h,h2⟩
theorem jO.keep'{r:Nat}{kvs:List ((Int×List UInt8)×Value)}{w w':World}(h:jO r kvs w)(hb:w'.heap[r]?=w.heap[r]?):jO r kvs w':=by
 obtain⟨es,h,h2⟩:=h;exact⟨es,hb.trans h,h2⟩
theorem jO.made(w:World):jO w.heap.size [] (w.alloc (.map #[] 0)):=⟨#[],heap_alloc_new _ _,rfl,λi e h=>by simp at h⟩
theorem Wv(p q:Int×List UInt8)(w:World):(Op.equal 187 (pP p) (pP q)).run prog w = .ok (decide (p=q)) w:=by
 obtain⟨n,a⟩:=p;obtain⟨m,b⟩:=q;have u3:=underlying3;have a3:=isAgg3;have z3:=sizeOf3;have u9:=underlying9;have a9:=isAgg9;have z9:=sizeOf9;have hS:prog.underlying 187=some (.struct (prog.fieldsOf 187)):=by kernel_rfl
 have hp:prog.stoodInHeld 187=false:=by kernel_rfl
 show (Op.equalIn 10000 187 (.agg #[.int .i64 n,.string ⟨a.toArray⟩]) (.agg #[.int .i64 m,.string ⟨b.toArray⟩])).run prog w=_;rw[show (10000:Nat)=9999+1 from rfl,run_equalIn_agg w 9999 187 _ _ hS hp];simp only[Program.fieldsOf,underlying187];go_simp;by_cases h0:a=b <;> by_cases h1:n=m <;> simp[h0,h1]
theorem Nd(b:Bool)(p:Int×List UInt8)(w:World):(Instr.checkKey b 10000 187 (pP p)).run prog w = .ok () w:=by
 have hS:=underlying187;have hs:∀ s w,(Instr.checkKey b 9999 9 (.string s)).run prog w = .ok () w:=λs w=>MapKept.run_checkKey (k:=.string s) underlying9 (by simp[MapKept.IsKey]) b 9998;have hi:∀ n w,(Instr.checkKey b 9999 3 (.int .i64 n)).run prog w = .ok () w:=λn w=>MapKept.run_checkKey (k:=.int .i64 n) underlying3 (by simp[MapKept.IsKey]) b 9998;have a3:=isAgg3;have z3:=sizeOf3;have a9:=isAgg9;have z9:=sizeOf9;rw[show (10000:Nat)=9999+1 from rfl,Instr.checkKey];simp only[pP,aA];simp[run_underlying hS,go_sem,Result.andThen,hs,hi]
theorem WV{fs:Array Field}{k:Value}{e:MapEntry}{es:List MapEntry}(i:Nat):Instr.findNow (.struct fs) k (e::es) i=none:=by
 simp only[Instr.findNow];rfl
theorem M3(p:Int×List UInt8)(w:World):∀ (es:List MapEntry) (kvs:List ((Int×List UInt8)×Value)) (i:Nat),es.map (λe=>(e.key,e.val))=kvs.map (λq=>(pP q.1,q.2))->
 (∀ v,kvs.lookup p=some v->∃ j,(es[j]?).map (λe=>(e.key,e.val))=some (pP p,v)/\kvs[j]?=some (p,v)/\(Instr.findAsking 187 (pP p) es i).run prog w = .ok (some (i+j,v)) w)/\(kvs.lookup p=none->(Instr.findAsking 187 (pP p) es i).run prog w = .ok none w)
 | [],kvs,i,h=>by
   cases kvs with
   | nil=>exact⟨λv h=>by simp at h,λ_=>by rw[Instr.findAsking]; rfl⟩
   | cons=>simp at h
 | e::es,kvs,i,h=>by
   cases kvs with
   | nil=>simp at h
   | cons q kvs=>
    obtain⟨q,u⟩:=q;simp only[List.map_cons,List.cons.injEq,Prod.mk.injEq] at h;obtain⟨⟨h1,h2⟩,h3⟩:=h;obtain⟨i1,i2⟩:=M3 p w es kvs (i+1) h3;have hq:=Wv p q w;rw[<-h1] at hq;by_cases se:p=q
    ·have hd:decide (p=q)=true:=by simpa using se
     rw[hd] at hq;have hr:(Instr.findAsking 187 (pP p) (e::es) i).run prog w = .ok (some (i,u)) w:=by
      rw[Instr.findAsking];simp[hq,h2]
     subst se;refine⟨λv hv=>⟨0,?_,?_,?_⟩,λhn=>?_⟩
     ·rw[List.lookup_cons_self] at hv; cases hv; simp[h1,h2]
     ·rw[List.lookup_cons_self] at hv; cases hv; rfl
     ·rw[List.lookup_cons_self] at hv; cases hv; exact hr
     ·rw[List.lookup_cons_self] at hn; cases hn
    ·have hd:decide (p=q)=false:=by simpa using se
     rw[hd] at hq;have hb:(p == q)=false:=by simpa using se
     have hr:(Instr.findAsking 187 (pP p) (e::es) i).run prog w=(Instr.findAsking 187 (pP p) es (i+1)).run prog w:=by
      rw[Instr.findAsking];simp[hq]
     have hl:((q,u)::kvs).lookup p=kvs.lookup p:=by rw[List.lookup_cons,hb]
     rw[hr,hl];refine⟨λv hv=>?_,i2⟩;obtain⟨j,j1,j2,j3⟩:=i1 v hv;exact⟨j+1,by simpa using j1,by simpa using j2,by rw[show i+(j+1)=i+1+j by omega]; exact j3⟩
theorem NK(p:Int×List UInt8)(w:World)(es:List MapEntry)(kvs:List ((Int×List UInt8)×Value))(h:es.map (λe=>(e.key,e.val))=kvs.map (λq=>(pP q.1,q.2))) :
 (∀ v,kvs.lookup p=some v->∃ j,(es[j]?).map (λe=>(e.key,e.val))=some (pP p,v)/\kvs[j]?=some (p,v)/\(Instr.findKey 187 (pP p) es).run prog w = .ok (some (j,v)) w)/\(kvs.lookup p=none->(Instr.findKey 187 (pP p) es).run prog w = .ok none w):=by
 have hS:=underlying187
 cases es with
 | nil=>
  cases kvs with
  | nil=>exact⟨λv h=>by simp at h,λ_=>by simp[Instr.findKey,run_underlying hS,Instr.findNow]⟩
  | cons=>simp at h
 | cons e es=>
  obtain⟨i1,i2⟩:=M3 p w (e::es) kvs 0 h;have hr:(Instr.findKey 187 (pP p) (e::es)).run prog w=(Instr.findAsking 187 (pP p) (e::es) 0).run prog w:=by
   simp[Instr.findKey,run_underlying hS,WV]
  rw[hr];refine⟨λv hv=>?_,i2⟩;obtain⟨j,j1,j2,j3⟩:=i1 v hv;exact⟨j,j1,j2,by rw[j3,Nat.zero_add]⟩
theorem aBZ(w:World)(t et:TypeId)(ht:prog.underlying t=some (.map 187 et))(r:Nat)(kvs:List ((Int×List UInt8)×Value))(hr:jO r kvs w)(p:Int×List UInt8)(z:Value)(hz:(zeroValue et).run prog w = .ok z w) :
 (Instr.lookup t (.map (some r)) (pP p) false).run prog w = .ok ((kvs.lookup p).getD z) w:=by
 obtain⟨es,hr,he,_⟩:=hr;have hf:=NK p w es.toList kvs he;have hc:∀ b,(Instr.checkKey b 10000 187 (pP p)).run prog w = .ok () w:=λb=>Nd b p w
 cases hl:kvs.lookup p with
 | none=>simp[Instr.lookup,run_underlying ht,MapKept.run_getObj_map hr,hc,hf.2 hl,Result.andThen,hz]
 | some v=>
  obtain⟨j,_,_,hj⟩:=hf.1 v hl;simp[Instr.lookup,run_underlying ht,MapKept.run_getObj_map hr,hc,hj,Result.andThen]
theorem aQK{ops:Array Oper}{rest:List Oper}{o:Oper}{a:Act}{Q:Exit->Act->World->Prop}(w:World)(hg:o.guard=none)(m x v:Operand)(t:TypeId)(kb:o.op=Op.mapUpdate t m x v)(et:TypeId)(ht:prog.underlying t=some (.map 187 et))
 (r:Nat) (kvs:List ((Int×List UInt8)×Value)) (hm:a.eval m = .map (some r)) (hr:jO r kvs w) (p:Int×List UInt8) (hx:a.eval x=pP p) (val:Value) (hv:a.eval v=val) (ig:kvs.lookup p=none)
 (hK:∀ w',jO r (kvs ++ [(p,val)]) w'->Turned r w w'->wpList prog ops Q rest (a.put o.dst undef) w'):wpList prog ops Q (o::rest) a w:=by
 obtain⟨es,hr,he,lp⟩:=hr;have hf:=(NK p w es.toList kvs he).2 ig;refine wpList_plain hg λK' hK'=>?_;have hc:(Instr.checkKey false 10000 187 (pP p)).run prog w = .ok () w:=Nd false p w;have dp:(Instr.mapUpdate t (.map (some r)) (pP p) val).run prog w = .ok () { w with heap:=w.heap.setIfInBounds r (.map (es.push { key:=pP p,val:=val,born:=es.size }) (es.size+1)) }:=by
  simp[Instr.mapUpdate,run_underlying ht,MapKept.run_getObj_map hr,hc,hf,MapKept.run_setObj_map _ hr,Result.andThen]
 unfold Oper.wp;simp[execOp,kb,hm,hx,hv,dp,Result.andThen];have hl:r<w.heap.size:=(eQ.1 hr).1;refine hK' _ _ (hK _ ⟨es.push { key:=pP p,val:=val,born:=es.size },by simp[hl],by simp[he],λi e hi=>?_⟩ ⟨rfl,rfl,rfl,by simp,λi hi=>by simp[Ne.symm hi]⟩);rw[Array.getElem?_push] at hi;split at hi
 ·rename_i h1; cases hi; exact h1.symm
 ·exact lp i e hi
def pH(p:Int×List UInt8):Value:=.agg #[.int .i64 p.1,aA p.2]
def oe(r:Nat)(kvs:List ((Int×List UInt8)×Value))(w:World):Prop:=∃ es,w.heap[r]?=some (.map es es.size)/\es.toList.map (λe=>(e.key,e.val))=kvs.map (λp=>(pH p.1,p.2))/\∀ (i:Nat) (e:MapEntry),es[i]?=some e->e.born=i
theorem oe.lt{r:Nat}{kvs:List ((Int×List UInt8)×Value)}{w:World}(h:oe r kvs w):r<w.heap.size:=by
 obtain⟨es,h,_⟩:=h;exact (eQ.1 h).1
theorem oe.keep{r:Nat}{kvs:List ((Int×List UInt8)×Value)}{w w':World}{n:Nat}(h:oe r kvs w)(hb:Below n w w')(hn:r<n):oe r kvs w':=by
 obtain⟨es,h,h2⟩:=h;exact⟨es,(hb.block r hn).trans h,h2⟩
theorem oe.keep'{r:Nat}{kvs:List ((Int×List UInt8)×Value)}{w w':World}(h:oe r kvs w)(hb:w'.heap[r]?=w.heap[r]?):oe r kvs w':=by
 obtain⟨es,h,h2⟩:=h;exact⟨es,hb.trans h,h2⟩
theorem oe.made(w:World):oe w.heap.size [] (w.alloc (.map #[] 0)):=⟨#[],heap_alloc_new _ _,rfl,λi e h=>by simp at h⟩
theorem Wu(p q:Int×List UInt8)(w:World):(Op.equal 112 (pH p) (pH q)).run prog w = .ok (decide (p=q)) w:=by
 obtain⟨n,a⟩:=p;obtain⟨m,b⟩:=q;have u3:=underlying3;have a3:=isAgg3;have z3:=sizeOf3;have u9:=underlying9;have a9:=isAgg9;have z9:=sizeOf9;have hS:prog.underlying 112=some (.struct (prog.fieldsOf 112)):=by kernel_rfl
 have hp:prog.stoodInHeld 112=false:=by kernel_rfl
 show (Op.equalIn 10000 112 (.agg #[.int .i64 n,.string ⟨a.toArray⟩]) (.agg #[.int .i64 m,.string ⟨b.toArray⟩])).run prog w=_;rw[show (10000:Nat)=9999+1 from rfl,run_equalIn_agg w 9999 112 _ _ hS hp];simp only[Program.fieldsOf,underlying112];go_simp;by_cases h0:a=b <;> by_cases h1:n=m <;> simp[h0,h1]
theorem VI(b:Bool)(p:Int×List UInt8)(w:World):(Instr.checkKey b 10000 112 (pH p)).run prog w = .ok () w:=by
 have hS:=underlying112;have hs:∀ s w,(Instr.checkKey b 9999 9 (.string s)).run prog w = .ok () w:=λs w=>MapKept.run_checkKey (k:=.string s) underlying9 (by simp[MapKept.IsKey]) b 9998;have hi:∀ n w,(Instr.checkKey b 9999 3 (.int .i64 n)).run prog w = .ok () w:=λn w=>MapKept.run_checkKey (k:=.int .i64 n) underlying3 (by simp[MapKept.IsKey]) b 9998;have a3:=isAgg3;have z3:=sizeOf3;have a9:=isAgg9;have z9:=sizeOf9;rw[show (10000:Nat)=9999+1 from rfl,Instr.checkKey];simp only[pH,aA];simp[run_underlying hS,go_sem,Result.andThen,hs,hi]
theorem WU{fs:Array Field}{k:Value}{e:MapEntry}{es:List MapEntry}(i:Nat):Instr.findNow (.struct fs) k (e::es) i=none:=by
 simp only[Instr.findNow];rfl
theorem M2(p:Int×List UInt8)(w:World):∀ (es:List MapEntry) (kvs:List ((Int×List UInt8)×Value)) (i:Nat),es.map (λe=>(e.key,e.val))=kvs.map (λq=>(pH q.1,q.2))->
 (∀ v,kvs.lookup p=some v->∃ j,(es[j]?).map (λe=>(e.key,e.val))=some (pH p,v)/\kvs[j]?=some (p,v)/\(Instr.findAsking 112 (pH p) es i).run prog w = .ok (some (i+j,v)) w)/\(kvs.lookup p=none->(Instr.findAsking 112 (pH p) es i).run prog w = .ok none w)
 | [],kvs,i,h=>by
   cases kvs with
   | nil=>exact⟨λv h=>by simp at h,λ_=>by rw[Instr.findAsking]; rfl⟩
   | cons=>simp at h
 | e::es,kvs,i,h=>by
   cases kvs with
   | nil=>simp at h
   | cons q kvs=>
    obtain⟨q,u⟩:=q;simp only[List.map_cons,List.cons.injEq,Prod.mk.injEq] at h;obtain⟨⟨h1,h2⟩,h3⟩:=h;obtain⟨i1,i2⟩:=M2 p w es kvs (i+1) h3;have hq:=Wu p q w;rw[<-h1] at hq;by_cases se:p=q
    ·have hd:decide (p=q)=true:=by simpa using se
     rw[hd] at hq;have hr:(Instr.findAsking 112 (pH p) (e::es) i).run prog w = .ok (some (i,u)) w:=by
      rw[Instr.findAsking];simp[hq,h2]
     subst se;refine⟨λv hv=>⟨0,?_,?_,?_⟩,λhn=>?_⟩
     ·rw[List.lookup_cons_self] at hv; cases hv; simp[h1,h2]
     ·rw[List.lookup_cons_self] at hv; cases hv; rfl
     ·rw[List.lookup_cons_self] at hv; cases hv; exact hr
     ·rw[List.lookup_cons_self] at hn; cases hn
    ·have hd:decide (p=q)=false:=by simpa using se
     rw[hd] at hq;have hb:(p == q)=false:=by simpa using se
     have hr:(Instr.findAsking 112 (pH p) (e::es) i).run prog w=(Instr.findAsking 112 (pH p) es (i+1)).run prog w:=by
      rw[Instr.findAsking];simp[hq]
     have hl:((q,u)::kvs).lookup p=kvs.lookup p:=by rw[List.lookup_cons,hb]
     rw[hr,hl];refine⟨λv hv=>?_,i2⟩;obtain⟨j,j1,j2,j3⟩:=i1 v hv;exact⟨j+1,by simpa using j1,by simpa using j2,by rw[show i+(j+1)=i+1+j by omega]; exact j3⟩
theorem WS(p:Int×List UInt8)(w:World)(es:List MapEntry)(kvs:List ((Int×List UInt8)×Value))(h:es.map (λe=>(e.key,e.val))=kvs.map (λq=>(pH q.1,q.2))) :
 (∀ v,kvs.lookup p=some v->∃ j,(es[j]?).map (λe=>(e.key,e.val))=some (pH p,v)/\kvs[j]?=some (p,v)/\(Instr.findKey 112 (pH p) es).run prog w = .ok (some (j,v)) w)/\(kvs.lookup p=none->(Instr.findKey 112 (pH p) es).run prog w = .ok none w):=by
 have hS:=underlying112
 cases es with
 | nil=>
  cases kvs with
  | nil=>exact⟨λv h=>by simp at h,λ_=>by simp[Instr.findKey,run_underlying hS,Instr.findNow]⟩
  | cons=>simp at h
 | cons e es=>
  obtain⟨i1,i2⟩:=M2 p w (e::es) kvs 0 h;have hr:(Instr.findKey 112 (pH p) (e::es)).run prog w=(Instr.findAsking 112 (pH p) (e::es) 0).run prog w:=by
   simp[Instr.findKey,run_underlying hS,WU]
  rw[hr];refine⟨λv hv=>?_,i2⟩;obtain⟨j,j1,j2,j3⟩:=i1 v hv;exact⟨j,j1,j2,by rw[j3,Nat.zero_add]⟩
end
section
open Go.RowKit
theorem ajX(a b:ByteArray)(n m p q:Int)(w:World):(binOp .neq 96 (.agg #[.string a,.int .i64 n,.int .i64 m]) (.agg #[.string b,.int .i64 p,.int .i64 q])).run prog w = .ok (.bool (!(a.toList == b.toList&&(n == p&&m == q)))) w:=by
 have u3:=underlying3;have a3:=isAgg3;have z3:=sizeOf3;have u9:=underlying9;have a9:=isAgg9;have z9:=sizeOf9;have hS:prog.underlying 96=some (.struct (prog.fieldsOf 96)):=by kernel_rfl
 have hp:prog.stoodInHeld 96=false:=by kernel_rfl
 rw[run_neq_struct,show (10000:Nat)=9999+1 from rfl,run_equalIn_agg w 9999 96 _ _ hS hp];simp only[Program.fieldsOf,underlying96];go_simp;by_cases h0:a.toList=b.toList <;> by_cases h1:n=p <;> by_cases h2:m=q <;> simp[h0,h1,h2]
theorem Wh{d x:Np.Datum}{a b:ByteArray}(ha:a.data.toList=d.text)(hb:b.data.toList=x.text):(!(a.toList == b.toList&&(d.n == x.n&&d.m == x.m)))=decide (d≠x):=by
 rw[dQ,dQ,ha,hb,Bool.eq_iff_iff];simp only[Bool.not_eq_true',Bool.and_eq_false_iff,beq_eq_false_iff_ne,Qa];obtain⟨t,n,m⟩:=d;obtain⟨t2,n2,m2⟩:=x;simp only[ne_eq,Np.Datum.mk.injEq,not_and];constructor
 ·rintro (h | h | h) rfl rfl
  ·exact absurd rfl h
  ·exact absurd rfl h
  ·exact h
 ·intro h;by_cases h1:t=t2
  ·by_cases h2:n=n2
   ·exact .inr (.inr (h h1 h2))
   ·exact .inr (.inl h2)
  ·exact .inl h1
theorem V0{α:Type}{xs ys:List α}{k:Nat}(h1:k<xs.length)(h2:k<ys.length)(h:xs.take k=ys.take k)(he:xs[k]=ys[k]):xs.take (k+1)=ys.take (k+1):=by
 rw[fQ h1,fQ h2,h,he]
theorem VZ{α:Type}{xs ys:List α}{k:Nat}(hl:xs.length=ys.length)(hk:¬ k<xs.length)(h:xs.take k=ys.take k):xs=ys:=by
 rwa [kQ (by omega),kQ (by omega)] at h
theorem Rl(s1 s2:ByteArray)(t1 l1 t2 l2:Int)(v1 v2:Value)(d1 d2:List Np.Datum)(w:World)(eU:SlR cr 3 w w.heap.size v1 d1)(ls:SlR cr 3 w w.heap.size v2 d2) :
 Calls prog 62 #[.agg #[.string s1,.int .i64 t1,.int .i64 l1,v1],.agg #[.string s2,.int .i64 t2,.int .i64 l2,v2]] w
  λe w'=>e = .returned (.bool (decide (s1=s2/\t1=t2/\l1=l2/\d1=d2)))/\Below w.heap.size w w':=by
 obtain⟨r,hr⟩:∃ r,decide (s1=s2/\t1=t2/\l1=l2/\d1=d2)=r:=⟨_,rfl⟩;rw[hr];have HR:=jq hr;have uI:=jq eU;have jI:=jq ls;obtain⟨A1,c1,rfl,aV,bi⟩:=ah eU;obtain⟨A2,c2,rfl,dG,dm⟩:=ah ls;have ia:Below w.heap.size w ((w.alloc (.cells #[.string s1,.int .i64 t1,.int .i64 l1,.slice A1 d1.length c1] 26)).alloc (.cells #[.string s2,.int .i64 t2,.int .i64 l2,.slice A2 d2.length c2] 26)):=((vQ _ _).alloc (bQ _) _).alloc (by simp) _;have aY:=jq ia;clear hr eU ls ia;have tX:∀ x y:Int,(x != y)=decide (x≠y):=λx y=>by by_cases h:x=y <;> simp[h]
 by_cases h1:s1=s2
 case neg=>
  have h1':¬ s1.toList=s2.toList:=λe=>h1 (iM (by rw[<-dQ,<-dQ]; exact e));have HF:=jq (show r=false by rw[<-HR.out]; simp[h1]);clear h1 tX;go_enter func62,ntmps62;go_wp2_with fail;go_ret;exact⟨ae HF.out.symm,aY.out⟩
 case pos=>
  subst h1;by_cases h2:t1=t2
  case neg=>
   have h2':(t1 != t2)=true:=by simpa using h2
   have HF:=jq (show r=false by rw[<-HR.out]; simp[h2]);clear h2 tX;go_enter func62,ntmps62;go_wp2_with fail;go_ret;exact⟨ae HF.out.symm,aY.out⟩
  case pos=>
   subst h2;by_cases h3:l1=l2
   case neg=>
    have h3':(l1 != l2)=true:=by simpa using h3
    have HF:=jq (show r=false by rw[<-HR.out]; simp[h3]);clear h3 tX;go_enter func62,ntmps62;go_wp2_with fail;go_ret;exact⟨ae HF.out.symm,aY.out⟩
   case pos=>
    subst h3;by_cases h4:d1.length=d2.length
    case neg=>
     have h4':((d1.length:Int) != (d2.length:Int))=true:=by rw[tX]; simp; omega
     have HF:=jq (show r=false by rw[<-HR.out]; simp; intro e; exact h4 (by rw[e]));clear h4 tX;go_enter func62,ntmps62;go_wp2_with fail;go_ret;exact⟨ae HF.out.symm,aY.out⟩
    case pos=>
     have h4':((d1.length:Int) != (d2.length:Int))=false:=by rw[tX]; simp; omega
     have HL:=jq h4;clear h4 tX;go_enter func62,ntmps62;go_wp2_with fail;have ai:((w.alloc (.cells #[.string s1,.int .i64 t1,.int .i64 l1,.slice A1 d1.length c1] 26)).alloc (.cells #[.string s1,.int .i64 t1,.int .i64 l1,.slice A2 d2.length c2] 26)).heap.size=w.heap.size+1+1:=by simp
     have q1:((w.alloc (.cells #[.string s1,.int .i64 t1,.int .i64 l1,.slice A1 d1.length c1] 26)).alloc (.cells #[.string s1,.int .i64 t1,.int .i64 l1,.slice A2 d2.length c2] 26)).cell? ⟨w.heap.size,3,none⟩=some (.slice A1 d1.length c1):=by simp[go_sem]
     have q2:((w.alloc (.cells #[.string s1,.int .i64 t1,.int .i64 l1,.slice A1 d1.length c1] 26)).alloc (.cells #[.string s1,.int .i64 t1,.int .i64 l1,.slice A2 d2.length c2] 26)).cell? ⟨w.heap.size+1,3,none⟩=some (.slice A2 d2.length c2):=by simp[go_sem]
     generalize jy:((w.alloc (.cells #[.string s1,.int .i64 t1,.int .i64 l1,.slice A1 d1.length c1] 26)).alloc (.cells #[.string s1,.int .i64 t1,.int .i64 l1,.slice A2 d2.length c2] 26))=wa at *;have HQ:=jq (And.intro q1 (And.intro q2 ai));clear jy q1 q2 ai;go_loopw [5] (λi wr=>∃ k:Nat,k<=d1.length/\i = .int .i64 k/\Hid (d1.take k=d2.take k)/\Hid (Below wa.heap.size wa wr)) (λi _=>d1.length - (intOf i).toNat)
     case atStart=>exact⟨0,jQ _,rfl,jq rfl,jq (vQ _ _)⟩
     case round=>
      obtain⟨k,hk,rfl,HN,HB⟩:=hrel;have aG:=aY.out.trans (HB.out.mono aY.out.size);have sh:=HQ.out;have g1:=(cl HB.out (by omega)).trans sh.1;have g2:=(cl HB.out (by omega)).trans sh.2.1;clear sh;by_cases aa:k<d1.length
      ·have tR:k<d2.length:=by have:=HL.out; omega
       obtain⟨b,o,c',s,hv,bZ,_,aX,_,e0,e1,e2⟩:=Iu uI.out (aQ aa);simp only[Value.slice.injEq,true_and] at hv;obtain⟨rfl,rfl⟩:=hv;obtain⟨b',o',c'',s',hv,vS,_,eW,_,f0,f1,f2⟩:=Iu jI.out (aQ tR);simp only[Value.slice.injEq,true_and] at hv;obtain⟨rfl,rfl⟩:=hv;have HT:=jq (V0 aa tR HN.out);have jK:=jq (show d1[k]≠d2[k]->r=false from λhne=>by rw[<-HR.out]; simp; intro e; subst e; exact hne rfl);generalize d1[k]=x at *;generalize d2[k]=y at *;replace e0:=(aG.cell (p:=⟨b,o+k * 3,none⟩) bZ).trans e0;replace e1:=(aG.cell (p:=⟨b,o+k * 3+1,none⟩) bZ).trans e1;replace e2:=(aG.cell (p:=⟨b,o+k * 3+2,none⟩) bZ).trans e2;replace f0:=(aG.cell (p:=⟨b',o'+k * 3,none⟩) vS).trans f0;replace f1:=(aG.cell (p:=⟨b',o'+k * 3+1,none⟩) vS).trans f1;replace f2:=(aG.cell (p:=⟨b',o'+k * 3+2,none⟩) vS).trans f2;have bH:(0:Int)<=(k:Int):=by omega
       have bG:(k:Int)<(d1.length:Int):=by omega
       have kA:(k:Int)<(d2.length:Int):=by omega
       have heq:=ajX s s' x.n x.m y.n y.m;rw[Wh aX eW] at heq;clear aG aX eW;by_cases hx:x=y
       ·have HX:=jq hx;have kJ:decide (x≠y)=false:=by simpa using hx
        rw[kJ] at heq;clear hx kJ;go_wp2_with fail;go_quiet (fail);go_wp2_with fail;go_roundw
        case rel=>exact⟨k+1,by omega,by go_num,jq (HT.out HX.out),jq (below_drewN HB.out _)⟩
        case measure=>simp[intOf] <;> omega
       ·have HX:=jq hx;have kJ:decide (x≠y)=true:=by simpa using hx
        rw[kJ] at heq;clear hx kJ;go_wp2_with fail;go_quiet (fail);go_wp2_with fail;go_ret;exact⟨ae (jK.out HX.out).symm,below_drewN (aY.out.trans (HB.out.mono aY.out.size)) _⟩
      ·go_wp2_with fail;go_ret;refine⟨ae ?_,aY.out.trans (HB.out.mono aY.out.size)⟩;rw[<-HR.out]
       have:=VZ HL.out aa HN.out
       simp[this]
structure BldT(T:TypeId):Prop where
 lies:liesAt prog prog.depth T (2 / prog.cellsOf T) 0 171 1=true
 ne:T≠5
def Bld(T:TypeId)(B b:Nat)(r:Option Nat)(l:List UInt8)(w:World):Prop:=
 ∃ p v,(p = .pointer none\/p = .pointer (some ⟨b,0,none⟩))/\B<=b/\w.heap[b]?=some (.cells #[p,v] T (0,0))/\w.ownsRow B 5 1 v l.length (Lib.byteCells l)/\v.ownBlock=r/\r≠some b/\(l = []->v = .slice none 0 0)
structure BS(b:Nat)(r:Option Nat)(w:World)(r':Option Nat)(w':World):Prop where
 os:w'.os=w.os
 tape:w'.tape=w.tape
 output:w'.output=w.output
 size:w.heap.size<=w'.heap.size
 keep:∀ k,k<w.heap.size->k≠b->r≠some k->w'.heap[k]?=w.heap[k]?
 at_:r'=r\/∃ k,w.heap.size<=k/\r'=some k
theorem BS.refl(b:Nat)(r:Option Nat)(w:World):BS b r w r w:=⟨rfl,rfl,rfl,bQ _,λ_ _ _ _=>rfl,.inl rfl⟩
theorem BS.trans{b:Nat}{r r' r'':Option Nat}{w w' w'':World}(h:BS b r w r' w')(k:BS b r' w' r'' w''):BS b r w r'' w'':=by
 refine⟨k.os.trans h.os,k.tape.trans h.tape,k.output.trans h.output,yQ h.size k.size,λi hi hb hr=>?_,?_⟩
 ·refine (k.keep i (lQ hi h.size) hb (λe=>?_)).trans (h.keep i hi hb hr);rcases h.at_ with e' | ⟨j,hj,e'⟩
  ·rw[e'] at e; exact hr e
  ·rw[e'] at e; simp at e; omega
 ·rcases k.at_ with e | ⟨j,hj,e⟩
  ·rcases h.at_ with e' | ⟨j,hj,e'⟩
   ·exact .inl (e.trans e')
   ·exact .inr ⟨j,hj,e.trans e'⟩
  ·exact .inr ⟨j,yQ h.size hj,e⟩
theorem BS.of_below{b:Nat}{r:Option Nat}{w w':World}(h:Below w.heap.size w w'):BS b r w r w':=⟨h.os,h.tape,h.output,h.size,λk hk _ _=>h.block k hk,.inl rfl⟩
theorem BS.after{b:Nat}{r r':Option Nat}{w w' w'':World}(h:BS b r w r' w')(k:Below w'.heap.size w' w''):BS b r w r' w'':=h.trans (BS.of_below k)
theorem BS.below{b:Nat}{r r':Option Nat}{w w':World}{n:Nat}(h:BS b r w r' w')(hb:n<=b)(hr:∀ k,r=some k->n<=k)(hn:n<=w.heap.size):Below n w w':=
 ⟨h.os,h.tape,h.output,h.size,λk hk=>h.keep k (by omega) (by omega) (λe=>by have:=hr k e; omega)⟩
theorem BS.cell{b:Nat}{r r':Option Nat}{w w':World}(h:BS b r w r' w'){k:Nat}(hk:k<w.heap.size)(hb:k≠b)(hr:r≠some k)(o:Nat):w'.cell? ⟨k,o,none⟩=w.cell? ⟨k,o,none⟩:=iQ (w:=w) (h.keep k hk hb hr)
theorem BS.free{b:Nat}{r r':Option Nat}{w w':World}(h:BS b r w r' w'){k:Nat}(hk:k<w.heap.size)(hr:r≠some k):r'≠some k:=λe=>by
 rcases h.at_ with e' | ⟨j,hj,e'⟩
 ·rw[e'] at e; exact hr e
 ·rw[e'] at e; simp at e; omega
theorem Bld.row{T:TypeId}{B b:Nat}{r:Option Nat}{l:List UInt8}{w:World}(h:Bld T B b r l w):B<=b/\b<w.heap.size/\∀ k,r=some k->B<=k/\k<w.heap.size:=by
 obtain⟨p,v,_,hB,hb,ho,rfl,_,_⟩:=h;exact⟨hB,(eQ.1 hb).1,λk hk=>ho.lt k hk⟩
theorem Bld.keep{T:TypeId}{B b:Nat}{r:Option Nat}{l:List UInt8}{w w':World}(h:Bld T B b r l w)(hb:Below w.heap.size w w'):Bld T B b r l w':=by
 have hrow:=h.row;obtain⟨p,v,hp,hB,hh,ho,rfl,hne,hn⟩:=h;refine⟨p,v,hp,hB,(hb.block b hrow.2.1).trans hh,fU ho (λg hg=>hb.block g (hrow.2.2 g hg).2),rfl,hne,hn⟩
theorem Bld.fresh(T:TypeId)(w:World):Bld T w.heap.size w.heap.size none [] (w.alloc (.cells #[.pointer none,.slice none 0 0] T)):=
 ⟨_,_,.inl rfl,bQ _,heap_alloc_new w _,World.ownsRow_nil _ _ _ _,rfl,by simp,λ_=>rfl⟩
theorem anZ{w:World}{base:Nat}{e T:TypeId}{v:Value}{n:Nat}{xs:List Value}{b:Nat}{cs:Array Value}{fr:Nat×Nat}(ho:w.ownsRow base e 1 v n xs)(hb:w.heap[b]?=some (.cells cs T fr))(hT:T≠e):v.ownBlock≠some b:=by
 intro h;rcases ho.2 with ⟨rfl,_⟩ | ⟨g,cap,cur,rfl,_,hg,_⟩
 ·cases h
 ·have:g=b:=Option.some.inj h
  subst this;rw[hb] at hg;simp only[Option.some.injEq,Obj.cells.injEq] at hg;exact hT hg.2.1
theorem Vx:prog.cellsOf 5=1:=by kernel_rfl
theorem Rt:(prog.info? 171).map (·.size)=some 2:=by kernel_rfl
theorem VY(b:Nat)(w:World)(h0:w.cell? ⟨b,0,none⟩=some (.pointer (some ⟨b,0,none⟩))) :
 Calls prog 188 #[.pointer (some ⟨b,0,none⟩)] w λe w'=>e = .returned (.tuple #[])/\w'=w:=by
 obtain⟨j,hj,_⟩:=Option.map_eq_some_iff.1 Rt;go_enter func188,ntmps188;go_wp2;rw[Lib.run_neq_ptr_same w _ underlying168 hj];go_wp2;go_end0;exact⟨rfl,rfl⟩
theorem VX{T:TypeId}(hT:BldT T)(b:Nat)(w:World)(h0:w.cell? ⟨b,0,none⟩=some (.pointer none))(Pv:w.shape? b=some (T,2))(rR:w.frozen? ⟨b,0,none⟩=false) :
 Calls prog 188 #[.pointer (some ⟨b,0,none⟩)] w λe w'=>e = .returned (.tuple #[])/\w'=w.setCell ⟨b,0,none⟩ (.pointer (some ⟨b,0,none⟩)):=by
 obtain⟨j,hj,BP⟩:=Option.map_eq_some_iff.1 Rt;go_enter func188,ntmps188;go_wp2;rw[Lib.run_to_unsafe w ⟨b,0,none⟩ underlying168 underlying262 hj (by rw[BP]; decide) Pv (Nat.zero_lt_succ 1)];simp only[Result.andThen];rw[Oper.upon_value];go_wp2;rw[run_callFunc_extern func231 (by kernel_rfl) (by kernel_rfl) (by kernel_rfl) (e:=Extern.AbiNoEscape.same) (by kernel_rfl)];rw[Lib.run_noEscape];simp only[Result.andThen];rw[Oper.upon_value];go_wp2;rw[Lib.run_from_unsafe w ⟨b,0,none⟩ underlying262 underlying168 hj Pv hT.lies];simp only[Result.andThen];rw[Oper.upon_value];go_wp2;go_end0;exact⟨rfl,rfl⟩
def Used(T:TypeId)(B b:Nat)(r:Option Nat)(l:List UInt8)(w:World):Prop:=
 ∃ v,B<=b/\w.heap[b]?=some (.cells #[.pointer (some ⟨b,0,none⟩),v] T (0,0))/\w.ownsRow B 5 1 v l.length (Lib.byteCells l)/\v.ownBlock=r/\r≠some b/\(l = []->v = .slice none 0 0)
theorem Nn{T:TypeId}(hT:BldT T)(B b:Nat)(r:Option Nat)(l:List UInt8)(w:World)(h:Bld T B b r l w) :
 Calls prog 188 #[.pointer (some ⟨b,0,none⟩)] w λe w'=>e = .returned (.tuple #[])/\Used T B b r l w'/\BS b r w r w':=by
 obtain⟨p,v,hp,hB,hb,ho,hr,hne,hn⟩:=h;have aa:=(eQ.1 hb).1;rcases hp with rfl | rfl
 ·refine (VX hT b w (by rw[Lib.cell_of_heap hb]; rfl) (by simp[World.shape?,hb]) (Lib.frozen_of_heap hb 0)).mono ?_;rintro e w' ⟨rfl,rfl⟩;refine⟨rfl,⟨v,hB,?_,?_,hr,hne,hn⟩,⟨rfl,rfl,rfl,by simp[World.setCell],λk _ hk _=>wQ _ _ _ _ hk,.inl rfl⟩⟩
  ·simp[World.setCell,Array.getElem?_modify,hb]
  ·exact fU ho (λg hg=>wQ _ _ _ _ (λe=>by rw[hr] at hg; exact hne (by rw[hg]; simpa using e)))
 ·refine (VY b w (by rw[Lib.cell_of_heap hb]; rfl)).mono ?_;rintro e w' ⟨rfl,rfl⟩;exact⟨rfl,⟨v,hB,hb,ho,hr,hne,hn⟩,BS.refl _ _ _⟩
theorem RN{T:TypeId}(hT:BldT T){B b:Nat}{r:Option Nat}{w1 w2:World}{v v':Value}{l':List UInt8}(hB:B<=b)(ab:w2.heap[b]?=some (.cells #[.pointer (some ⟨b,0,none⟩),v] T (0,0)))
 (ho:w2.ownsRow B 5 1 v' l'.length (Lib.byteCells l')) (am:w1.heap.size<=w2.heap.size) (rX:∀ k,k<w1.heap.size->k≠b->r≠some k->w2.heap[k]?=w1.heap[k]?) (ij:w2.os=w1.os/\w2.tape=w1.tape/\w2.output=w1.output)
 (hat:v'.ownBlock=r\/∃ k,w1.heap.size<=k/\v'.ownBlock=some k) (hn:l' = []->v' = .slice none 0 0) :
 Bld T B b v'.ownBlock l' (w2.setCell ⟨b,1,none⟩ v')/\BS b r w1 v'.ownBlock (w2.setCell ⟨b,1,none⟩ v'):=by
 have hne:=anZ ho ab hT.ne;refine⟨⟨_,v',.inr rfl,hB,?_,?_,rfl,hne,hn⟩,⟨ij.1,ij.2.1,ij.2.2,by simpa [World.setCell] using am,λk hk h1 h2=>(wQ _ _ _ _ h1).trans (rX k hk h1 h2),hat⟩⟩
 ·simp[World.setCell,Array.getElem?_modify,ab]
 ·exact fU ho (λg hg=>wQ _ _ _ _ (λe=>hne (by rw[hg]; simpa using e)))
def CP(T:TypeId)(B b:Nat)(r:Option Nat)(l:List UInt8)(v:Value)(w:World)(e:Ending)(w':World):Prop:=e = .returned v/\∃ r',Bld T B b r' l w'/\BS b r w r' w'
theorem aQY{T:TypeId}(hT:BldT T)(B b:Nat)(r:Option Nat)(l:List UInt8)(c:UInt8)(w:World)(h:Bld T B b r l w)(hl:l.length<=100000000)(iV:B<=w.heap.size) :
 Calls prog 119 #[.pointer (some ⟨b,0,none⟩),.int .u8 c.toNat] w (CP T B b r (l ++ [c]) .nilIface w):=by
 obtain⟨i0,hi,fS,bL,aM⟩:=info_parts Tryz.infoByte;have H:=jq h;clear h;go_enter func119,ntmps119;go_wp2_with fail;refine (Nn hT B b r l _ H.out).mono ?_;rintro e w1 ⟨rfl,⟨v,hB,rN,hown,hr,hne,_⟩,aX⟩;have c1:w1.cell? ⟨b,1,none⟩=some v:=by rw[Lib.cell_of_heap rN]; rfl
 have aa:b<w1.heap.size:=(eQ.1 rN).1;have HO:=jq hown;have zD:=jq rN;have HR:=jq hr;have gp:=jq aX;have so:=aX.size;clear hown rN hr aX;go_wp2_with (at_builtin; refine wpList_append_own_at _ rfl _ _ 169 rfl B 5 i0 (.int .u8 0) 1 1 underlying169 hi fS bL aM rfl (by decide) _ _ _ rfl (HO.out.alloc _) ⟨w1.heap.size,0,none⟩ 1 1 [.int .u8 c.toNat] rfl rfl (cell_one_new _ _ _) (by simp[Value.oneCell']) (by unfold maxLen; omega) (by omega) (by simp; omega) ?_; intro v' w2 pL BK EB hat; have H2:=jq (And.intro pL (And.intro BK hat)); clear pL BK hat EB; have ab:w2.heap[b]?=some (.cells #[.pointer (some ⟨b,0,none⟩),v] T (0,0)):=(by rw[H2.out.2.1.block b (by simp; omega) (λe=>hne (HR.out.symm.trans e.symm)),Lib.alloc_old w1 _ b aa]; exact zD.out); have d1:w2.cell? ⟨b,1,none⟩=some v:=(by rw[Lib.cell_of_heap ab]; rfl); have f1:w2.frozen? ⟨b,1,none⟩=false:=Lib.frozen_of_heap ab 1; have al:=jq ab; clear ab; obtain⟨ao,cap,rfl⟩:=yZ H2.out.1);go_ret;obtain⟨o2,g2,a2⟩:=H2.out;have BG:=RN hT (r:=r) (w1:=w1) (l':=l ++ [c]) hB al.out (by simpa [Lib.byteCells] using o2) (by have:=g2.size; simp at this; omega) (λk hk h1 h2=>by rw[g2.block k (by simp; omega) (λe=>h2 (HR.out.symm.trans e.symm)),Lib.alloc_old w1 _ k hk]) ⟨g2.os,g2.tape,g2.output⟩ (by
  rcases a2 with a2 | a2
  ·exact .inl (a2.trans HR.out)
  ·exact .inr ⟨_,by simp,a2⟩) (by simp)
 exact⟨rfl,_,BG.1,gp.out.trans BG.2⟩
theorem R8{T:TypeId}(hT:BldT T)(B b:Nat)(r:Option Nat)(l:List UInt8)(s:ByteArray)(w:World)(h:Bld T B b r l w)(hl:l.length<=100000000)(hs:s.size<=100000000)(iV:B<=w.heap.size) :
 Calls prog 118 #[.pointer (some ⟨b,0,none⟩),.string s] w (CP T B b r (l++s.data.toList) (.tuple #[.int .i64 s.size,.nilIface]) w):=by
 obtain⟨i0,hi,fS,bL,aM⟩:=info_parts Tryz.infoByte;have H:=jq h;clear h;go_enter func118,ntmps118;go_wp2_with fail;refine (Nn hT B b r l _ H.out).mono ?_;rintro e w1 ⟨rfl,⟨v,hB,rN,hown,hr,hne,EB⟩,aX⟩;have c1:w1.cell? ⟨b,1,none⟩=some v:=by rw[Lib.cell_of_heap rN]; rfl
 have aa:b<w1.heap.size:=(eQ.1 rN).1;have HO:=jq hown;have zD:=jq rN;have HR:=jq hr;have gp:=jq aX;have HN:=jq EB;have so:=aX.size;clear hown rN hr aX EB;go_wp2_with (at_builtin; refine aPK _ rfl _ _ 169 9 rfl B 5 i0 underlying169 underlying9 hi fS bL aM _ _ _ rfl HO.out s rfl (by unfold maxLen; omega) (by omega) (by omega) ?_; intro v' w2 pL BK hat wN; have H2:=jq (And.intro pL (And.intro BK hat)); have gl:=jq wN; clear pL BK hat wN; have ab:w2.heap[b]?=some (.cells #[.pointer (some ⟨b,0,none⟩),v] T (0,0)):=(by rw[H2.out.2.1.block b aa (λe=>hne (HR.out.symm.trans e.symm))]; exact zD.out); have d1:w2.cell? ⟨b,1,none⟩=some v:=(by rw[Lib.cell_of_heap ab]; rfl); have f1:w2.frozen? ⟨b,1,none⟩=false:=Lib.frozen_of_heap ab 1; have al:=jq ab; clear ab; obtain⟨ao,cap,rfl⟩:=yZ H2.out.1);go_ret2;obtain⟨o2,g2,a2⟩:=H2.out;have BG:=RN hT (r:=r) (w1:=w1) (l':=l++s.data.toList) hB al.out (by simpa [Lib.byteCells,Lib.strCells] using o2) g2.size (λk hk h1 h2=>g2.block k hk (λe=>h2 (HR.out.symm.trans e.symm))) ⟨g2.os,g2.tape,g2.output⟩ (by
  rcases a2 with a2 | a2
  ·exact .inl (a2.trans HR.out)
  ·exact .inr ⟨_,bQ _,a2⟩) (by
  intro h0;have h1:=List.append_eq_nil_iff.1 h0;exact gl.out.2 ⟨HN.out h1.1,by rw[<-aT,h1.2]; rfl⟩)
 exact⟨rfl,_,BG.1,gp.out.trans BG.2⟩
def uC(T:TypeId)(B b:Nat)(l:List UInt8)(w:World):Prop:=
 ∃ p v,B<=b/\w.heap[b]?=some (.cells #[p,v] T (0,0))/\((v = .slice none 0 0/\l = [])\/∃ g cap cur fr,v = .slice (some ⟨g,0,none⟩) l.length cap/\l≠[]/\B<=g/\g≠b/\w.heap[g]?=some (.cells cur 5 fr)/\l.length<=cur.size/\l.length<=cap/\l.length<=9223372036854775807/\cur.toList.take l.length=Lib.byteCells l)
theorem Bld.read{T:TypeId}{B b:Nat}{r:Option Nat}{l:List UInt8}{w:World}(h:Bld T B b r l w):uC T B b l w:=by
 obtain⟨p,v,_,hB,hb,ho,hr,hne,hn⟩:=h;refine⟨p,v,hB,hb,?_⟩;by_cases h0:l = []
 ·exact .inl ⟨hn h0,h0⟩
 ·right;rcases ho.2 with ⟨_,h1⟩ | ⟨g,cap,cur,rfl,yt,hg,oH,fN,hcs,ht⟩
  ·exact absurd (rQ h1) h0
  ·refine⟨g,cap,cur,_,rfl,h0,yt,λe=>hne ?_,hg,by omega,oH,by unfold maxLen at fN; omega,by simpa using ht⟩;rw[<-hr,e]; rfl
theorem uC.keep{T:TypeId}{B b:Nat}{l:List UInt8}{w w':World}(h:uC T B b l w)(hb:Below w.heap.size w w'):uC T B b l w':=by
 obtain⟨p,v,hB,hh,hv⟩:=h;refine⟨p,v,hB,(hb.block b (eQ.1 hh).1).trans hh,?_⟩;rcases hv with hv | ⟨g,cap,cur,fr,h1,h2,h3,h4,h5,h6⟩
 ·exact .inl hv
 ·exact .inr ⟨g,cap,cur,fr,h1,h2,h3,h4,(hb.block g (eQ.1 h5).1).trans h5,h6⟩
theorem Xc{w:World}{g n k:Nat}(h:k≠g):(w.freeze ⟨g,0,none⟩ n).heap[k]?=w.heap[k]?:=by
 unfold World.freeze;split
 ·rfl
 ·simp only[Array.getElem?_modify];rw[Qc (Ne.symm h)]
theorem Xb{w:World}{g n:Nat}{cur:Array Value}{t:TypeId}{fr:Nat×Nat}(h:w.heap[g]?=some (.cells cur t fr)):∃ fr',(w.freeze ⟨g,0,none⟩ n).heap[g]?=some (.cells cur t fr'):=by
 unfold World.freeze;split
 ·exact⟨fr,h⟩
 ·simp only[Array.getElem?_modify,if_true,h];obtain⟨lo,hi⟩:=fr;exact⟨_,rfl⟩
theorem aIQ{T:TypeId}(B b:Nat)(l:List UInt8)(w:World)(h:uC T B b l w) :
 Calls prog 122 #[.pointer (some ⟨b,0,none⟩)] w λe w'=>e = .returned (aA l)/\uC T B b l w'/\Below B w w':=by
 obtain⟨p,v,hB,hb,hv⟩:=h;rcases hv with ⟨rfl,rfl⟩ | ⟨g,cap,cur,fr,rfl,h0,N0,eI,hg,OZ,Yg,ku,ht⟩
 ·have c1:w.drew.cell? ⟨b,1,none⟩=some (.slice none 0 0):=by
   have:w.drew.heap[b]?=some (.cells #[p,.slice none 0 0] T (0,0)):=hb
   rw[Lib.cell_of_heap this]; rfl
  have XG:∀ W q,(Builtin.unsafeString_ #[234,3] 9 #[.pointer q,.int .i64 0]).run prog W = .ok (.string .empty) W:=λW q=>Lib.run_unsafeString_none W _ _ _ q;have gu:(Builtin.unsafeSliceData_ #[169] 234 #[.slice none 0 0]).run prog w.drew = .ok (.pointer none) w.drew:=rfl;have HB:=jq hb;clear hb;go_enter func122,ntmps122;go_wp2;go_region
  all_goals (go_wp2; go_ret; exact⟨rfl,⟨p,_,hB,HB.out,.inl ⟨rfl,rfl⟩⟩,(vQ _ _).drew⟩)
 ·have c1:w.drew.cell? ⟨b,1,none⟩=some (.slice (some ⟨g,0,none⟩) l.length cap):=by
   have:w.drew.heap[b]?=some (.cells #[p,.slice (some ⟨g,0,none⟩) l.length cap] T (0,0)):=hb
   rw[Lib.cell_of_heap this]; rfl
  have tO:l.length≠0:=by simpa using h0
  have gu:(Builtin.unsafeSliceData_ #[169] 234 #[.slice (some ⟨g,0,none⟩) l.length cap]).run prog w.drew = .ok (.pointer (some ⟨g,0,none⟩)) w.drew:=
   Lib.run_unsafeSliceData_row _ _ _ _ _ _ (by omega)
  have hg':w.drew.heap[g]?=some (.cells cur 5 fr):=hg;have XG:(Builtin.unsafeString_ #[234,3] 9 #[.pointer (some ⟨g,0,none⟩),.int .i64 l.length]).run prog w.drew = .ok (.string ⟨l.toArray⟩) (w.drew.freeze ⟨g,0,none⟩ l.length):=by
   refine Lib.run_unsafeString_row w.drew 234 3 9 5 underlying234 Vx g cur.size (by simp[World.shape?,hg']) l h0 OZ ku ?_;intro j x hx;have oC:(⟨g,0,none⟩:Addr).add j=⟨g,j,none⟩:=by unfold Addr.add; split <;> simp_all
   rw[oC,Lib.cell_of_heap hg'];have h1:(Lib.byteCells l)[j]?=some (.int .u8 x.toNat):=by simp[Lib.byteCells,hx]
   rw[<-ht,List.getElem?_take] at h1;split at h1
   ·simpa using h1
   ·cases h1
  have HF:Hid (uC T B b l (w.drew.freeze ⟨g,0,none⟩ l.length)/\Below B w (w.drew.freeze ⟨g,0,none⟩ l.length)):=by
   obtain⟨fr',Jr⟩:=Xb (n:=l.length) hg';exact jq ⟨⟨p,_,hB,(Xc (Ne.symm eI)).trans hb,.inr ⟨g,cap,cur,fr',rfl,h0,N0,eI,Jr,OZ,Yg,ku,ht⟩⟩,Lib.below_freeze (Below.drew (vQ B w)) (p:=⟨g,0,none⟩) N0 _⟩
  clear hb hg hg' ht;go_enter func122,ntmps122;go_wp2;go_region
  all_goals (go_wp2; go_ret; exact⟨rfl,HF.out⟩)
def If(b:Nat)(r:Option Nat)(w:World)(v:Value)(ws:List (List UInt8)):Prop:=
 ∃ A c,v = .slice A ws.length c/\ws.length<=c/\ws.length<=1000000/\∀ i x,ws[i]?=some x->∃ g o,A=some ⟨g,o,none⟩/\g<w.heap.size/\g≠b/\r≠some g/\w.cell? ⟨g,o+i,none⟩=some (aA x)
theorem If.step{b:Nat}{r r':Option Nat}{w w':World}{v:Value}{ws:List (List UInt8)}(h:If b r w v ws)(hs:BS b r w r' w'):If b r' w' v ws:=by
 obtain⟨A,c,h1,h2,h3,h4⟩:=h;refine⟨A,c,h1,h2,h3,λi x hx=>?_⟩;obtain⟨g,o,h5,h6,h7,h8,h9⟩:=h4 i x hx;exact⟨g,o,h5,lQ h6 hs.size,h7,hs.free h6 h8,(hs.cell h6 h7 h8 _).trans h9⟩
theorem R7{T:TypeId}(hT:BldT T)(B b:Nat)(r:Option Nat)(l:List UInt8)(c:UInt8)(k:Int)(hk:(c.toNat:Int)=k)(w:World)(h:Bld T B b r l w)(hl:l.length<=100000000)(iV:B<=w.heap.size) :
 Calls prog 119 #[.pointer (some ⟨b,0,none⟩),.int .u8 k] w (CP T B b r (l ++ [c]) .nilIface w):=by
 subst hk;exact aQY hT B b r l c w h hl iV
end
end Go.Proofs.YtbfbobfbgabjiaaGreatDoor
